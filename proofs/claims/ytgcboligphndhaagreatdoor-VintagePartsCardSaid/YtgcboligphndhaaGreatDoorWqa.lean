/- The engine, part 9: new objects, and stores. -/
import Derived.Orders
import Derived.Tactics
import Derived.Laws.AppendOwn
import Derived.Laws.Rows
import Derived.Laws.Entries
import Derived.Deep.LoopGhost
import Derived.Laws.Strings
import Derived.Lib.Strings
import Derived.Laws.StructEq
import Derived.Laws.Build
namespace Go.Eng
theorem sI7{α:Type _}(a b:α):(some a=some b)=(a=b):=Option.some.injEq a b
theorem pI7{α β:Type _}(a:α)(b:β)(c:α)(d:β):((a,b)=(c,d))=(a=c/\b=d):=Prod.mk.injEq a b c d
theorem lA7{α:Type _}{as bs:List α}:(as++bs).length=as.length+bs.length:=List.length_append
theorem lR7(n:Nat):n<=n:=Nat.le_refl n
theorem zL7(n:Nat):0<=n:=Nat.zero_le n
theorem bA7(a b:Bool):((a && b)=true)=(a=true/\b=true):=Bool.and_eq_true a b
theorem tN7(n:Nat):((n:Int)).toNat=n:=Int.toNat_natCast n
theorem oJ7{α:Type _}{a b:α}(h:some a=some b):a=b:=Option.some.inj h
theorem nZ7(n:Nat):¬ n<0:=Nat.not_lt_zero n
inductive AV where
 |any
 |bool (b:Bool)
 |int (k:IntKind) (n:Int)
 |str (s:List UInt8)
 |nilptr
 |ptr (r:Nat) (off:Nat)
 |eptr (r:Nat) (sz i off:Nat)
 |vptr (g:List AV)
 |nil
 |empty
 |view (sz n:Nat) (f:Nat->List AV)
 |own (r:Nat) (n:Nat)
 |sub (r sz off n:Nat)
 |nilmap
 |vmap (n:Nat) (f:Nat->List AV)
 |map (r:Nat)
 |func (f:FuncId) (cap:List AV)
 |nilfunc
 |nilIface
 |iface (t:TypeId) (v:AV)
 |agg (cs:List AV)
 |tuple (vs:List AV)
 deriving Inhabited
inductive Hd where
 |blk (b cap:Nat)
 |nil
def nob:Nat->Option Hd:=λ_=>none
inductive V (w:World) (M:Nat->Prop):(Nat->Option Hd)->Value->AV->Prop where
 |any {bs:Nat->Option Hd} {v}:V w M bs v .any
 |bool {bs:Nat->Option Hd} {b}:V w M bs (.bool b) (.bool b)
 |int {bs:Nat->Option Hd} {k n}:V w M bs (.int k n) (.int k n)
 |str {bs:Nat->Option Hd} {s:ByteArray} {l:List UInt8} (h:s.data.toList=l):V w M bs (.string s) (.str l)
 |nilptr {bs:Nat->Option Hd}:V w M bs (.pointer none) .nilptr
 |ptr {bs:Nat->Option Hd} {r off b c} (h:bs r=some (.blk b c)):V w M bs (.pointer (some ⟨b,off,none⟩)) (.ptr r off)
 |eptr {bs:Nat->Option Hd} {r sz i off b c} (h:bs r=some (.blk b c)):V w M bs (.pointer (some ⟨b,i * sz+off,none⟩)) (.eptr r sz i off)
 |vptr {bs:Nat->Option Hd} {ad:Addr} {g:List AV} (cv:Nat->Value) (hM:¬ M ad.block) (hb:ad.block<w.heap.size) (hc:∀j,j<g.length->w.cell? (ad.add j)=some (cv j))
   (h1:∀j,j<g.length->(cv j).oneCell'=true) (hv:∀j u,g[j]?=some u->V w M nob (cv j) u):V w M bs (.pointer (some ad)) (.vptr g)
 |nil {bs:Nat->Option Hd}:V w M bs (.slice none 0 0) .nil
 |empty {bs:Nat->Option Hd} {A}:V w M bs (.slice A 0 0) .empty
 |view {bs:Nat->Option Hd} {A:Option Addr} {n c sz:Nat} {f:Nat->List AV} (ad:Addr) (cv:Nat->Nat->Value) (hn:n<=c) (hcm:c<=maxLen)
   (hA:0<n->A=some ad/\¬ M ad.block/\ad.block<w.heap.size) (hl:∀i,i<n->(f i).length=sz)
   (hc:∀i,i<n->∀j,j<sz->w.cell? (ad.add (i * sz+j))=some (cv i j)) (h1:∀i,i<n->∀j,j<sz->(cv i j).oneCell'=true)
   (hv:∀i,i<n->∀j u,(f i)[j]?=some u->V w M nob (cv i j) u):V w M bs (.slice A n c) (.view sz n f)
 |own {bs:Nat->Option Hd} {r n b c} (h:bs r=some (.blk b c)) (hn:n<=c) (hcm:c<=maxLen):V w M bs (.slice (some ⟨b,0,none⟩) n c) (.own r n)
 |ownnil {bs:Nat->Option Hd} {r n A} (h:bs r=some .nil) (hn:n=0):V w M bs (.slice A 0 0) (.own r n)
 |sub {bs:Nat->Option Hd} {r sz off n b c A} (h:bs r=some (.blk b c)) (hn:off+n<=c) (hcm:c<=maxLen) (hA:0<n->A=some ⟨b,off * sz,none⟩):V w M bs (.slice A n (c - off)) (.sub r sz off n)
 |subnil {bs:Nat->Option Hd} {r sz off n A} (h:bs r=some .nil) (hn:n=0) (ho:off=0):V w M bs (.slice A 0 0) (.sub r sz off n)
 |nilmap {bs:Nat->Option Hd}:V w M bs (.map none) .nilmap
 |vmap {bs:Nat->Option Hd} {b n:Nat} {f:Nat->List AV} {ents:Array MapEntry} {clock:Nat} (hM:¬ M b) (hb:b<w.heap.size) (hm:w.heap[b]?=some (.map ents clock)) (hn:ents.size=n)
   (hk:∀(i:Nat) (e:MapEntry) u,ents[i]?=some e->(f i)[0]?=some u->V w M nob e.key u) (hv:∀(i:Nat) (e:MapEntry) u,ents[i]?=some e->(f i)[1]?=some u->V w M nob e.val u):V w M bs (.map (some b)) (.vmap n f)
 |map {bs:Nat->Option Hd} {r b c} (h:bs r=some (.blk b c)):V w M bs (.map (some b)) (.map r)
 |func {bs:Nat->Option Hd} {f caps l} (hl:caps.size=l.length) (hv:∀(j:Nat) v u,caps[j]?=some v->l[j]?=some u->V w M bs v u):V w M bs (.func (.func f) #[] caps) (.func f l)
 |nilfunc {bs:Nat->Option Hd}:V w M bs .nilFunc .nilfunc
 |nilIface {bs:Nat->Option Hd}:V w M bs .nilIface .nilIface
 |iface {bs:Nat->Option Hd} {t v u} (h:V w M bs v u):V w M bs (.iface t v) (.iface t u)
 |agg {bs:Nat->Option Hd} {vs cs} (hl:vs.size=cs.length) (h1:∀(j:Nat) (v:Value),vs[j]?=some v->v.oneCell'=true) (hv:∀(j:Nat) v u,vs[j]?=some v->cs[j]?=some u->V w M bs v u):V w M bs (.agg vs) (.agg cs)
 |tuple {bs:Nat->Option Hd} {vs cs} (hl:vs.size=cs.length) (hv:∀(j:Nat) v u,vs[j]?=some v->cs[j]?=some u->V w M bs v u):V w M bs (.tuple vs) (.tuple cs)
structure Step (w:World) (M:Nat->Prop) (bs:Nat->Option Hd) (w':World) (M':Nat->Prop) (bs':Nat->Option Hd):Prop where
 bs:∀r h,bs r=some h->bs' r=some h
 far:∀b,b<w.heap.size->¬ M b->¬ M' b
 heap:∀b,b<w.heap.size->¬ M b->w'.heap[b]?=w.heap[b]?
 size:w.heap.size<=w'.heap.size
theorem Step.trans{w w1 w2:World}{M M1 M2:Nat->Prop}{bs bs1 bs2:Nat->Option Hd}(h:Step w M bs w1 M1 bs1)(k:Step w1 M1 bs1 w2 M2 bs2):Step w M bs w2 M2 bs2:=
 ⟨λr x hx=>k.bs r x (h.bs r x hx),λb hb hM=>k.far b (Nat.lt_of_lt_of_le hb h.size) (h.far b hb hM),λb hb hM=>(k.heap b (Nat.lt_of_lt_of_le hb h.size) (h.far b hb hM)).trans (h.heap b hb hM),Nat.le_trans h.size k.size⟩
theorem Step.refl(w:World)(M:Nat->Prop)(bs:Nat->Option Hd):Step w M bs w M bs:=⟨λ_ _ h=>h,λ_ _ h=>h,λ_ _ _=>rfl,lR7 _⟩
theorem wef(a:Addr)(n:Nat):(a.add n).block=a.block:=by unfold Addr.add;split<;>rfl
theorem wl4{w w':World}{a:Addr}(h:w'.heap[a.block]?=w.heap[a.block]?):w'.cell? a=w.cell? a:=by simp[World.cell?,h]
theorem V.step_{w w':World}{M M':Nat->Prop}(far:∀b,b<w.heap.size->¬ M b->¬ M' b)(heap:∀b,b<w.heap.size->¬ M b->w'.heap[b]?=w.heap[b]?)(size:w.heap.size<=w'.heap.size)
  {bs:Nat->Option Hd} {v:Value} {u:AV} (h:V w M bs v u):∀bs':Nat->Option Hd,(∀r x,bs r=some x->bs' r=some x)->V w' M' bs' v u:=by
 induction h with
 |any=>exact λ_ _=>.any
 |bool=>exact λ_ _=>.bool
 |int=>exact λ_ _=>.int
 |str h=>exact λ_ _=>.str h
 |nilptr=>exact λ_ _=>.nilptr
 |ptr h=>exact λ_ s=>.ptr (s _ _ h)
 |eptr h=>exact λ_ s=>.eptr (s _ _ h)
 |@vptr bs ad g cv hM hb hc h1 hv ih=>
  exact λ_ s=>.vptr cv (far _ hb hM) (Nat.lt_of_lt_of_le hb size) (λj hj=>(wl4 (by rw[wef];exact heap _ hb hM)).trans (hc j hj)) h1 λj u hu=>ih j u hu nob λ_ _ hh=>hh
 |nil=>exact λ_ _=>.nil
 |empty=>exact λ_ _=>.empty
 |@view bs A n c sz f ad cv hn hcm hA hl hc h1 hv ih=>
  refine λ_ s=>.view ad cv hn hcm (λh0=>?_) hl (λi hi j hj=>?_) h1 λi hi j u hu=>ih i hi j u hu nob λ_ _ hh=>hh
  .obtain⟨e,hM,hb⟩:=hA h0;exact⟨e,far _ hb hM,Nat.lt_of_lt_of_le hb size⟩
  .obtain⟨e,hM,hb⟩:=hA (by omega);exact(wl4 (by rw[wef];exact heap _ hb hM)).trans (hc i hi j hj)
 |own h hn hcm=>exact λ_ s=>.own (s _ _ h) hn hcm
 |ownnil h hn=>exact λ_ s=>.ownnil (s _ _ h) hn
 |sub h hn hcm hA=>exact λ_ s=>.sub (s _ _ h) hn hcm hA
 |subnil h hn ho=>exact λ_ s=>.subnil (s _ _ h) hn ho
 |nilmap=>exact λ_ _=>.nilmap
 |vmap hM hb hm hn hk hv ihk ihv=>exact λ_ _=>.vmap (far _ hb hM) (Nat.lt_of_lt_of_le hb size) ((heap _ hb hM).trans hm) hn (λi e u h1 h2=>ihk i e u h1 h2 nob λ_ _ hh=>hh) (λi e u h1 h2=>ihv i e u h1 h2 nob λ_ _ hh=>hh)
 |map h=>exact λ_ s=>.map (s _ _ h)
 |func hl hv ih=>exact λ_ s=>.func hl λj v u h1 h2=>ih j v u h1 h2 _ s
 |nilfunc=>exact λ_ _=>.nilfunc
 |nilIface=>exact λ_ _=>.nilIface
 |iface h ih=>exact λ_ s=>.iface (ih _ s)
 |agg hl h1 hv ih=>exact λ_ s=>.agg hl h1 λj v u h1 h2=>ih j v u h1 h2 _ s
 |tuple hl hv ih=>exact λ_ s=>.tuple hl λj v u h1 h2=>ih j v u h1 h2 _ s
theorem V.step{w w':World}{M M':Nat->Prop}{bs bs':Nat->Option Hd}(s:Step w M bs w' M' bs'){v:Value}{u:AV}(h:V w M bs v u):V w' M' bs' v u:=h.step_ s.far s.heap s.size bs' s.bs
theorem V.lift{w:World}{M:Nat->Prop}{bs:Nat->Option Hd}{v:Value}{u:AV}(h:V w M nob v u):V w M bs v u:=h.step_ (λ_ _ h=>h) (λ_ _ _=>rfl) (lR7 _) bs λr x hx=>by simp[nob] at hx
inductive AObj where
 |cells (cs:List AV) (t:TypeId)
 |row (t:TypeId) (sz n:Nat) (f:Nat->List AV) (fr:Bool)
 |amap (es:List (AV×AV))
 |siter (s:List UInt8) (pos:Nat)
 |miter (m n0:Nat) (left:List Nat)
 |dead
 deriving Inhabited
def AObj.mut:AObj->Bool
 |.cells _ _=>true
 |.row _ _ _ _ fr=> !fr
 |.amap _=>true
 |.siter _ _=>true
 |.miter _ _ _=>true
 |.dead=>false
def wim(w:World)(M:Nat->Prop)(bs:Nat->Option Hd)(ents:Array MapEntry)(es:List (AV×AV)):Prop:=
 ents.size=es.length/\∀(j:Nat) (e:MapEntry) (p:AV×AV),ents[j]?=some e->es[j]?=some p->V w M bs e.key p.1/\V w M bs e.val p.2
def wqd(ents:Array MapEntry)(clock:Nat):Prop:=
 clock=ents.size/\∀(i:Nat) (e:MapEntry),ents[i]?=some e->e.born=i
def weq(w:World)(M:Nat->Prop)(bs:Nat->Option Hd)(r:Nat):AObj->Prop
 |.cells cs t=>∃b c vs,bs r=some (.blk b c)/\w.heap[b]?=some (.cells vs t (0,0))/\vs.size=cs.length/\(∀(j:Nat) (v:Value),vs[j]?=some v->v.oneCell'=true)/\
   ∀(j:Nat) v u,vs[j]?=some v->cs[j]?=some u->V w M bs v u
 |.row t sz n f _=>(bs r=some .nil/\n=0)∨
   ∃b c vs,bs r=some (.blk b c)/\w.heap[b]?=some (.cells vs t (0,0))/\n<=c/\c<=maxLen/\vs.size=c * sz/\(∀i,i<n->(f i).length=sz)/\
    (∀i,i<n->∀j,j<sz->∀v:Value,vs[i * sz+j]?=some v->v.oneCell'=true)/\∀i,i<n->∀(j:Nat) v u,j<sz->vs[i * sz+j]?=some v->(f i)[j]?=some u->V w M bs v u
 |.amap es=>∃b c ents clock,bs r=some (.blk b c)/\w.heap[b]?=some (.map ents clock)/\wim w M bs ents es/\wqd ents clock
 |.siter s pos=>∃b c bytes,bs r=some (.blk b c)/\w.heap[b]?=some (.stringIter bytes pos)/\bytes.data.toList=s
 |.miter m n0 left=>∃b c bm cm seen,bs r=some (.blk b c)/\bs m=some (.blk bm cm)/\w.heap[b]?=some (.mapIter (some bm) n0 seen n0)/\
   (left.drop 2).Nodup/\(∀i,i∈left.drop 2->i<n0)/\(∀i,i<n0->(i∈left.drop 2↔seen.contains i=false))/\∀i,left[1]?=some i->i<n0->seen.back?=some i
 |.dead=>True
structure Ctx where
 P:Program
 gsz:Nat
 laid:World->Prop
 mixed:P.follows .mixedOrders=true
 keep:∀w w':World,(∀b,b<gsz->w'.heap[b]?=w.heap[b]?)->laid w->laid w'
 cnt:Bool:=false
class Ctx.Loose (C:Ctx):Prop where
 cnt:C.cnt=false
structure Ent where
 w0:World
 m:Nat
 bs0:Nat->Option Hd
 mut0:Nat->Prop
 outer:Nat->Prop
def mutB(O:Nat->Option AObj)(bs:Nat->Option Hd)(b:Nat):Prop:=∃r o c,O r=some o/\o.mut=true/\bs r=some (.blk b c)
def MB(E:Ent)(O:Nat->Option AObj)(bs:Nat->Option Hd)(b:Nat):Prop:=E.outer b∨mutB O bs b
structure TL (c:Bool) (w' w:World):Prop where
 tape:w'.tape=w.tape
 drawn:c=true->w.drawn<=w'.drawn
theorem TL.trans{c:Bool}{w w1 w2:World}(h:TL c w2 w1)(k:TL c w1 w):TL c w2 w:=⟨h.tape.trans k.tape,λhc=>Nat.le_trans (k.drawn hc) (h.drawn hc)⟩
theorem TL.refl(c:Bool)(w:World):TL c w w:=⟨rfl,λ_=>lR7 _⟩
structure WRep (C:Ctx) (E:Ent) (O:Nat->Option AObj) (bs:Nat->Option Hd) (w:World):Prop where
 obj:∀r o,O r=some o->weq w (MB E O bs) bs r o
 sep:∀r r' o o' b c c',O r=some o->O r'=some o'->o.mut=true->o'.mut=true->bs r=some (.blk b c)->bs r'=some (.blk b c')->r=r'
 out:∀b,mutB O bs b->¬ E.outer b
 frz:∀r t sz n f b c,O r=some (.row t sz n f true)->bs r=some (.blk b c)->¬ MB E O bs b
 high:∀b,MB E O bs b->C.gsz<=b
 lt:∀r b c,bs r=some (.blk b c)->b<w.heap.size
 outlt:∀b,E.outer b->b<E.w0.heap.size
 keep:∀b,b<E.w0.heap.size->¬ E.mut0 b->w.heap[b]?=E.w0.heap[b]?
 old:∀b,mutB O bs b->E.mut0 b∨E.w0.heap.size<=b
 size:E.w0.heap.size<=w.heap.size
 pre:∀r h,r<E.m->E.bs0 r=some h->bs r=some h
 os:w.os=E.w0.os
 tape:TL C.cnt w E.w0
 output:w.output=E.w0.output
 laid:C.laid w
 gle:C.gsz<=E.w0.heap.size
def FRep(w:World)(M:Nat->Prop)(bs:Nat->Option Hd)(N:Nat)(T:Nat->Option AV)(a:Act):Prop:=
 a.defers=[]/\a.tmps.size=N/\∀i u,T i=some u->∃v,a.tmps[i]?=some v/\V w M bs v u
def Rep(C:Ctx)(E:Ent)(N:Nat)(T:Nat->Option AV)(O:Nat->Option AObj)(bs:Nat->Option Hd)(a:Act)(w:World):Prop:=
 FRep w (MB E O bs) bs N T a/\WRep C E O bs w
def lk{α:Type}:List (Nat×α)->Nat->Option α
 |[],_=>none
 |(j,x)::l,i=>match Nat.beq j i with
  |true=>some x
  |false=>lk l i
structure St where
 T:List (Nat×AV)
 O:List (Nat×AObj)
 nx:Nat
 dec:List Nat:=[]
theorem wax{α:Type}(p:Nat×α)(l:List (Nat×α))(i:Nat):lk (p::l) i=if p.1=i then some p.2 else lk l i:=by
 obtain⟨j,x⟩:=p;simp only[lk]
 by_cases h:j=i
 .rw[if_pos h,h,Nat.beq_refl]
 .rw[if_neg h];have:Nat.beq j i=false:=by
   cases hb:Nat.beq j i with
   |false=>rfl
   |true=>exact absurd (Nat.eq_of_beq_eq_true hb) h
  rw[this]
theorem FRep.put{w:World}{M:Nat->Prop}{bs:Nat->Option Hd}{N:Nat}{T:List (Nat×AV)}{a:Act}(h:FRep w M bs N (lk T) a){d:Nat}(hd:d<N){v:Value}{u:AV}(hv:V w M bs v u):
  FRep w M bs N (lk ((d,u)::T)) (a.put (some d) v):=by
 obtain⟨h0,h1,h2⟩:=h;refine⟨by simpa[Act.put] using h0,by simpa[Act.put] using h1,λi x hx=>?_⟩;rw[wax] at hx
 by_cases hi:d=i
 .subst hi;simp only[↓reduceIte,sI7] at hx;subst hx;exact⟨v,by simp[Act.put,h1,hd],hv⟩
 .simp only[hi, ↓reduceIte] at hx;obtain⟨y,hy,hyv⟩:=h2 i x hx;exact⟨y,by simp[Act.put,Array.getElem?_setIfInBounds_ne hi,hy],hyv⟩
theorem FRep.step{w w':World}{M M':Nat->Prop}{bs bs':Nat->Option Hd}{N:Nat}{T:Nat->Option AV}{a:Act}(s:Step w M bs w' M' bs')(h:FRep w M bs N T a):FRep w' M' bs' N T a:=
 ⟨h.1,h.2.1,λi u hu=>let ⟨v,h1,h2⟩:=h.2.2 i u hu;⟨v,h1,h2.step s⟩⟩
theorem weq.step{w w':World}{M M':Nat->Prop}{bs bs':Nat->Option Hd}(s:Step w M bs w' M' bs'){r:Nat}{o:AObj}(hb:∀b c,bs r=some (.blk b c)->w'.heap[b]?=w.heap[b]?)(h:weq w M bs r o):weq w' M' bs' r o:=by
 cases o with
 |cells cs t=>
  obtain⟨b,c,vs,h1,h2,h3,h4,h5⟩:=h;exact⟨b,c,vs,s.bs _ _ h1,(hb _ _ h1).trans h2,h3,h4,λj v u hv hu=>(h5 j v u hv hu).step s⟩
 |row t sz n f fr=>
  rcases h with⟨h1,h2⟩ | ⟨b,c,vs,h1,h2,h3,h4,h5,h6,h7,h8⟩
  .exact .inl ⟨s.bs _ _ h1,h2⟩
  .exact .inr ⟨b,c,vs,s.bs _ _ h1,(hb _ _ h1).trans h2,h3,h4,h5,h6,h7,λi hi j v u hj hv hu=>(h8 i hi j v u hj hv hu).step s⟩
 |amap es=>
  obtain⟨b,c,ents,clock,h1,h2,h3,h4⟩:=h;exact⟨b,c,ents,clock,s.bs _ _ h1,(hb _ _ h1).trans h2,⟨h3.1,λj e p he hp=>⟨(h3.2 j e p he hp).1.step s,(h3.2 j e p he hp).2.step s⟩⟩,h4⟩
 |siter l pos=>
  obtain⟨b,c,bytes,h1,h2,h3⟩:=h;exact⟨b,c,bytes,s.bs _ _ h1,(hb _ _ h1).trans h2,h3⟩
 |miter m n0 left=>
  obtain⟨b,c,bm,cm,seen,h1,h2,h3,h4⟩:=h;exact⟨b,c,bm,cm,seen,s.bs _ _ h1,s.bs _ _ h2,(hb _ _ h1).trans h3,h4⟩
 |dead=>trivial
theorem WRep.next{C:Ctx}{E:Ent}{O O':Nat->Option AObj}{bs bs':Nat->Option Hd}{w w':World}(hW:WRep C E O bs w)(Ch:Nat->Prop)
  (hbs:∀i h,bs i=some h->bs' i=some h)
  (hb':∀i b c,bs' i=some (.blk b c)->bs i=some (.blk b c)∨(w.heap.size<=b/\b<w'.heap.size)∨mutB O bs b)
  (hCh:∀b,Ch b->mutB O bs b) (hheap:∀b,b<w.heap.size->¬ Ch b->w'.heap[b]?=w.heap[b]?) (hsize:w.heap.size<=w'.heap.size)
  (hmut:∀b,mutB O' bs' b->mutB O bs b∨w.heap.size<=b)
  (hobj:Step w (MB E O bs) bs w' (MB E O' bs') bs'->∀i o,O' i=some o->(O i=some o/\∀b c,bs i=some (.blk b c)->¬ Ch b)∨weq w' (MB E O' bs') bs' i o)
  (hsep:∀r r' o o' b c c',O' r=some o->O' r'=some o'->o.mut=true->o'.mut=true->bs' r=some (.blk b c)->bs' r'=some (.blk b c')->r=r')
  (hfrz:∀r t sz n f b c,O' r=some (.row t sz n f true)->bs' r=some (.blk b c)->¬ mutB O' bs' b/\¬ E.outer b)
  (hos:w'.os=w.os) (htape:TL C.cnt w' w) (hout:w'.output=w.output):
  Step w (MB E O bs) bs w' (MB E O' bs') bs'/\WRep C E O' bs' w':=by
 have hS:Step w (MB E O bs) bs w' (MB E O' bs') bs':=by
  refine⟨hbs,λb hb hM hM'=>?_,λb hb hM=>hheap b hb λhc=>hM (.inr (hCh b hc)),hsize⟩
  rcases hM' with h | h
  .exact hM (.inl h)
  .rcases hmut b h with h | h
   .exact hM (.inr h)
   .omega
 refine⟨hS,?_⟩;have hmlt:∀b,mutB O bs b->b<w.heap.size:=λb ⟨r,o,c,_,_,h⟩=>hW.lt r b c h
 exact {
  obj:=λi o ho=>by
   rcases hobj hS i o ho with⟨h1,h2⟩ | h
   .have hok:=hW.obj i o h1;exact hok.step hS λb c hb=>hheap b (hW.lt i b c hb) (h2 b c hb)
   .exact h
  sep:=hsep
  out:=λb hb ho=>by
   rcases hmut b hb with h | h
   .exact hW.out b h ho
   .have:=hW.outlt b ho;have:=hW.size;omega
  frz:=λr t sz n f b c ho hb hM=>by
   obtain⟨h1,h2⟩:=hfrz r t sz n f b c ho hb;exact hM.elim h2 h1
  high:=λb hb=>by
   rcases hb with h | h
   .exact hW.high b (.inl h)
   .rcases hmut b h with h | h
    .exact hW.high b (.inr h)
    .have:=hW.gle;have:=hW.size;omega
  lt:=λr b c h=>by
   rcases hb' r b c h with h | h | h
   .exact Nat.lt_of_lt_of_le (hW.lt r b c h) hsize
   .exact h.2
   .exact Nat.lt_of_lt_of_le (hmlt b h) hsize
  outlt:=hW.outlt
  keep:=λb hb hm=>by
   have hlt:b<w.heap.size:=Nat.lt_of_lt_of_le hb hW.size;rw[hheap b hlt (λhc=>?_)]
   .exact hW.keep b hb hm
   .rcases hW.old b (hCh b hc) with h | h
    .exact hm h
    .omega
  old:=λb hb=>by
   rcases hmut b hb with h | h
   .exact hW.old b h
   .right;exact Nat.le_trans hW.size h
  size:=Nat.le_trans hW.size hsize
  pre:=λr h hr hb=>hbs r h (hW.pre r h hr hb)
  os:=hos.trans hW.os
  tape:=htape.trans hW.tape
  output:=hout.trans hW.output
  laid:=C.keep w w' (λb hb=>hheap b (Nat.lt_of_lt_of_le hb (Nat.le_trans hW.gle hW.size)) λhc=>by
   have:=hW.high b (.inr (hCh b hc));omega) hW.laid
  gle:=hW.gle }
structure TI where
 desc:TypeDesc
 sz:Nat
 bytes:Nat
 zero:Value
 cmp:Bool:=false
abbrev TE:=List (Nat×TI)
def TE.ok(P:Program)(te:TE):Prop:=∀t ti,lk te t=some ti->P.underlying t=some ti.desc/\(∃i,P.info? t=some i/\i.size=ti.sz/\i.bytes=ti.bytes/\i.zero=some ti.zero)/\
 (ti.cmp = true -> P.stoodInHeld t = false /\ P.eqGuardType P.depth t = false /\ ∀fs, ti.desc = .struct fs -> ∀f ∈ fs.toList, f.name ≠ "_")
def wa8:TypeDesc->Bool
 |.struct _=>true
 |.array _ _=>true
 |_=>false
def inR:IntKind->Int->Prop
 |.i8,n=> -128<=n/\n<=127
 |.i16,n=> -32768<=n/\n<=32767
 |.i32,n=> -2147483648<=n/\n<=2147483647
 |.i64,n=> -9223372036854775808<=n/\n<=9223372036854775807
 |.u8,n=>0<=n/\n<=255
 |.u16,n=>0<=n/\n<=65535
 |.u32,n=>0<=n/\n<=4294967295
 |.u64,n=>0<=n/\n<=18446744073709551615
theorem wj5{k:IntKind}{n:Int}(h:inR k n):k.wrap n=n:=by
 cases k<;>simp only[inR] at h<;>simp[IntKind.wrap,IntKind.bits,IntKind.signed]<;>omega
def avc:Value->Option AV
 |.bool b=>some (.bool b)
 |.int k n=>some (.int k n)
 |.string s=>some (.str s.data.toList)
 |.pointer none=>some .nilptr
 |.slice none 0 0=>some .nil
 |.map none=>some .nilmap
 |.nilFunc=>some .nilfunc
 |.nilIface=>some .nilIface
 |_=>none
theorem wtd{w:World}{M:Nat->Prop}{bs:Nat->Option Hd}{v:Value}{u:AV}(h:avc v=some u):V w M bs v u:=by
 unfold avc at h;split at h<;>simp only[sI7,reduceCtorEq] at h<;>subst h
 .exact .bool
 .exact .int
 .exact .str rfl
 .exact .nilptr
 .exact .nil
 .exact .nilmap
 .exact .nilfunc
 .exact .nilIface
theorem avc_one{v:Value}{u:AV}(h:avc v=some u):v.oneCell'=true:=by
 unfold avc at h;split at h<;>first | rfl | cases h
def evO(T:Nat->Option AV):Operand->Option AV
 |.tmp t=>T t
 |.const v=>avc v
 |.func f=>some (.func f [])
 |.global _=>none
theorem wbe{w:World}{M:Nat->Prop}{bs:Nat->Option Hd}{N:Nat}{T:Nat->Option AV}{a:Act}(hF:FRep w M bs N T a){x:Operand}{u:AV}(h:evO T x=some u):V w M bs (a.eval x) u:=by
 cases x with
 |tmp t=>
  obtain⟨v,hv,hV⟩:=hF.2.2 t u h;simp only[Act.eval,Array.getD_eq_getD_getElem?,hv,Option.getD_some];exact hV
 |const v=>exact wtd h
 |func f=>
  simp only[evO,sI7] at h;subst h;exact .func (caps:=#[]) rfl (λj v u h=>by simp at h)
 |global g=>cases h
def wcq{α:Type}:Nat->List α->Option (List α)
 |0,_=>some []
 |_+1,[]=>none
 |n+1,x::l=>match wcq n l with
  |some r=>some (x::r)
  |none=>none
theorem wqp{α:Type}:∀ {n:Nat} {l r:List α},wcq n l=some r->n<=l.length/\r=l.take n
 |0,l,r,h=>by simp[wcq] at h;subst h;simp
 |n+1,[],r,h=>by simp[wcq] at h
 |n+1,x::l,r,h=>by
  simp only[wcq] at h;split at h
  .rename_i r' hr;have:=wqp hr;simp at h;subst h;simp[this.1,this.2]
  .cases h
def wce{α:Type}:Nat->List α->List α
 |0,l=>l
 |_+1,[]=>[]
 |n+1,_::l=>wce n l
theorem wdn{α:Type}:∀(n:Nat) (l:List α),wce n l=l.drop n
 |0,l=>by simp[wce]
 |n+1,[]=>by simp[wce]
 |n+1,x::l=>by simp[wce,wdn n l]
def wff(O:Nat->Option AObj):AV->Option (List AV×Prop)
 |.ptr r off=>match O r with
  |some (.cells cs _)=>some (wce off cs,True)
  |_=>none
 |.eptr r sz i off=>match O r with
  |some (.row _ sz' n f _)=>some (wce off (f i),i<n/\sz=sz')
  |_=>none
 |.vptr g=>some (g,True)
 |_=>none
def PCells(w:World)(M:Nat->Prop)(bs:Nat->Option Hd)(v:Value)(g:List AV):Prop:=
 ∃(ad:Addr) (cv:Nat->Value),v= .pointer (some ad)/\(∀j,j<g.length->w.cell? (ad.add j)=some (cv j))/\(∀j,j<g.length->(cv j).oneCell'=true)/\∀j u,g[j]?=some u->V w M bs (cv j) u
theorem w1s{C:Ctx}{E:Ent}{O:Nat->Option AObj}{bs:Nat->Option Hd}{w:World}(hW:WRep C E O bs w){v:Value}{u:AV}{g:List AV}{vc:Prop}
  (hv:V w (MB E O bs) bs v u) (h:wff O u=some (g,vc)) (hvc:vc):PCells w (MB E O bs) bs v g:=by
 unfold wff at h;split at h
 .rename_i r off;split at h
  .rename_i cs t ho;simp only[sI7,pI7] at h;obtain⟨rfl,_⟩:=h;obtain⟨b,c,vs,hb,hh,hsz,h1,hV⟩:=hW.obj r _ ho
   cases hv with
   |ptr hb'=>
    rw[hb] at hb';injection hb' with hb';injection hb' with e1 e2;subst e1;refine⟨_,λj=>vs.getD (off+j) default,rfl,λj hj=>?_,λj hj=>?_,λj x hx=>?_⟩
    .rw[wdn,List.length_drop] at hj;rw[Addr.add_lit,cell_of_row w b (off+j) vs t (0,0) hh];simp[show off+j<vs.size by omega]
    .rw[wdn,List.length_drop] at hj;exact h1 (off+j) _ (by simp[show off+j<vs.size by omega])
    .rw[wdn,List.getElem?_drop] at hx;have hlt:off+j<cs.length:=(List.getElem?_eq_some_iff.1 hx).1;exact hV (off+j) _ x (by simp[show off+j<vs.size by omega]) hx
  .cases h
 .rename_i r sz i off;split at h
  .rename_i t sz' n f fr ho;simp only[sI7,pI7] at h;obtain⟨rfl,rfl⟩:=h;obtain⟨hi,rfl⟩:=hvc
   rcases hW.obj r _ ho with⟨_,h0⟩ | ⟨b,c,vs,hb,hh,hnc,hcm,hsz,hl,h1,hV⟩
   .omega
   cases hv with
   |eptr hb'=>
    rw[hb] at hb';injection hb' with hb';injection hb' with e1 e2;subst e1;have hlf:=hl i hi;have hle:(i+1) * sz<=c * sz:=Nat.mul_le_mul_right _ (by omega);rw[Nat.add_mul,Nat.one_mul] at hle;refine⟨_,λj=>vs.getD (i * sz+(off+j)) default,rfl,λj hj=>?_,λj hj=>?_,λj x hx=>?_⟩
    .rw[wdn,List.length_drop] at hj;rw[Addr.add_lit,Nat.add_assoc,cell_of_row w b (i * sz+(off+j)) vs t (0,0) hh];simp[show i * sz+(off+j)<vs.size by omega]
    .rw[wdn,List.length_drop] at hj;exact h1 i hi (off+j) (by omega) _ (by simp[show i * sz+(off+j)<vs.size by omega])
    .rw[wdn,List.getElem?_drop] at hx;have hlt:off+j<(f i).length:=(List.getElem?_eq_some_iff.1 hx).1;exact hV i hi (off+j) _ x (by omega) (by simp[show i * sz+(off+j)<vs.size by omega]) hx
  .cases h
 .simp only[sI7,pI7] at h;obtain⟨rfl,_⟩:=h
  cases hv with
  |vptr cv hM hb hc h1 hv=>exact⟨_,cv,rfl,hc,h1,λj u hu=>(hv j u hu).lift⟩
 .cases h
theorem wu7{P:Program}{w:World}{a:Addr}{cv:Nat->Value}:∀(n i:Nat) (acc:Array Value),(∀j,j<n->w.cell? (a.add (i+j))=some (cv (i+j)))->
  (loadCellsFrom a i n acc).run P w= .ok (acc++((List.range n).map λj=>cv (i+j)).toArray) w
 |0,i,acc,h=>by simp[loadCellsFrom]
 |n+1,i,acc,h=>by
  have h0:=h 0 (by omega);simp only[Nat.add_zero] at h0;simp only[loadCellsFrom,Sem.run_bind,run_load,h0,Result.andThen_ok];rw[wu7 n (i+1) _ (λj hj=>by have:=h (j+1) (by omega);rwa [show i+(j+1)=i+1+j by omega] at this)];congr 1;rw[List.range_succ_eq_map];apply Array.toList_inj.1;simp[Function.comp_def,Nat.add_assoc,Nat.add_comm 1]
theorem wu6{P:Program}{te:TE}(hte:TE.ok P te){w:World}{t:TypeId}{ti:TI}(ht:lk te t=some ti){a:Addr}{cv:Nat->Value}(hc:∀j,j<ti.sz->w.cell? (a.add j)=some (cv j))
  (h1:wa8 ti.desc=false->ti.sz=1):
  (loadVar t a).run P w= .ok (if wa8 ti.desc then .agg ((List.range ti.sz).map cv).toArray else cv 0) w:=by
 obtain⟨hu,⟨i,hi,hs,_,_⟩,_⟩:=hte t ti ht;have hagg:(isAgg t).run P w= .ok (wa8 ti.desc) w:=by
  simp only[isAgg,Sem.run_bind,run_underlying hu,Result.andThen_ok]
  cases ti.desc<;>simp[wa8]
 have hsz:(sizeOf t).run P w= .ok ti.sz w:=by simp[sizeOf,typeInfo,hi,hs]
 simp only[loadVar,Sem.run_bind,hagg,Result.andThen_ok]
 cases hd:wa8 ti.desc with
 |true=>
  simp only[↓reduceIte,Sem.run_bind,hsz,Result.andThen_ok,loadCells];rw[wu7 (cv:=cv) ti.sz 0 #[] (by simpa using hc)];simp
 |false=>
  have:=hc 0 (by rw[h1 hd];omega);rw[Addr.add_zero'] at this;simp[this]
def wgy(k:IntKind)(n:Int):Option (AV×Prop):=match k with
 |.u8=>some (.int .u8 (n % 256),True)
 |.u16=>some (.int .u16 (n % 65536),True)
 |.u32=>some (.int .u32 (n % 4294967296),True)
 |.u64=>some (.int .u64 (n % 18446744073709551616),True)
 |.i8=>some (.int .i8 n,inR .i8 n)
 |.i16=>some (.int .i16 n,inR .i16 n)
 |.i32=>some (.int .i32 n,inR .i32 n)
 |.i64=>some (.int .i64 n,inR .i64 n)
theorem w81{k:IntKind}{n:Int}{u:AV}{vc:Prop}(h:wgy k n=some (u,vc))(hvc:vc):u= .int k (k.wrap n):=by
 cases k<;>simp only[wgy,sI7,pI7] at h<;>obtain⟨rfl,rfl⟩:=h
 case u8 | u16 | u32 | u64=>simp[IntKind.wrap,IntKind.bits,IntKind.signed]
 all_goals (rw[wj5 hvc])
def binA(d:TypeDesc):BinOp->AV->AV->Option (AV×Prop)
 |.add,.int k a,.int k' b=>if k=k' then wgy k (a+b) else none
 |.sub,.int k a,.int k' b=>if k=k' then wgy k (a - b) else none
 |.mul,.int k a,.int k' b=>if k=k' then wgy k (a * b) else none
 |.quo,.int k a,.int k' b=>if k=k' then some (.int k (a.tdiv b),b≠0/\inR k (a.tdiv b)) else none
 |.rem,.int k a,.int k' b=>if k=k' then some (.int k (a.tmod b),b≠0) else none
 |.and,.int k a,.int k' b=>if k=k' then some (.int k (bits .and k a b),True) else none
 |.or,.int k a,.int k' b=>if k=k' then some (.int k (bits .or k a b),True) else none
 |.xor,.int k a,.int k' b=>if k=k' then some (.int k (bits .xor k a b),True) else none
 |.shl,.int k a,.int _ b=>some (.int k (k.wrap (a * 2 ^ b.toNat)),0<=b/\b<=k.bits)
 |.shr,.int k a,.int _ b=>some (.int k (a / 2 ^ b.toNat),0<=b/\b<=k.bits)
 |.eql,.int k a,.int k' b=>if k=k' then some (.bool (decide (a=b)),True) else none
 |.neq,.int k a,.int k' b=>if k=k' then some (.bool (!decide (a=b)),True) else none
 |.lss,.int k a,.int k' b=>if k=k' then some (.bool (decide (a<b)),True) else none
 |.leq,.int k a,.int k' b=>if k=k' then some (.bool (decide (a<=b)),True) else none
 |.gtr,.int k a,.int k' b=>if k=k' then some (.bool (decide (b<a)),True) else none
 |.geq,.int k a,.int k' b=>if k=k' then some (.bool (decide (b<=a)),True) else none
 |.add,.str a,.str b=>some (.str (a++b),a.length+b.length<=9223372036854775807)
 |.eql,.str a,.str b=>some (.bool (decide (a=b)),True)
 |.neq,.str a,.str b=>some (.bool (!decide (a=b)),True)
 |.lss,.str a,.str b=>some (.bool (Op.bytesLess a b),True)
 |.leq,.str a,.str b=>some (.bool (Op.bytesLess a b || decide (a=b)),True)
 |.gtr,.str a,.str b=>some (.bool (!(Op.bytesLess a b || decide (a=b))),True)
 |.geq,.str a,.str b=>some (.bool (!Op.bytesLess a b),True)
 |.eql,.bool a,.bool b=>match d with
  |.bool=>some (.bool (decide (a=b)),True)
  |_=>none
 |.neq,.bool a,.bool b=>match d with
  |.bool=>some (.bool (!decide (a=b)),True)
  |_=>none
 |.eql,.ptr _ _,.nilptr=>match d with
  |.pointer _=>some (.bool false,True)
  |_=>none
 |.neq,.ptr _ _,.nilptr=>match d with
  |.pointer _=>some (.bool true,True)
  |_=>none
 |.eql,.nilIface,.nilIface=>match d with
  |.interface _=>some (.bool true,True)
  |_=>none
 |.neq,.nilIface,.nilIface=>match d with
  |.interface _=>some (.bool false,True)
  |_=>none
 |.eql,.iface _ _,.nilIface=>match d with
  |.interface _=>some (.bool false,True)
  |_=>none
 |.neq,.iface _ _,.nilIface=>match d with
  |.interface _=>some (.bool true,True)
  |_=>none
 |.eql,.view _ (_+1) _,.nil=>match d with
  |.slice _=>some (.bool false,True)
  |_=>none
 |.neq,.view _ (_+1) _,.nil=>match d with
  |.slice _=>some (.bool true,True)
  |_=>none
 |.eql,.own _ (_+1),.nil=>match d with
  |.slice _=>some (.bool false,True)
  |_=>none
 |.neq,.own _ (_+1),.nil=>match d with
  |.slice _=>some (.bool true,True)
  |_=>none
 |.eql,.nil,.nil=>match d with
  |.slice _=>some (.bool true,True)
  |_=>none
 |.neq,.nil,.nil=>match d with
  |.slice _=>some (.bool false,True)
  |_=>none
 |.eql,.map _,.nilmap=>match d with
  |.map _ _=>some (.bool false,True)
  |_=>none
 |.neq,.map _,.nilmap=>match d with
  |.map _ _=>some (.bool true,True)
  |_=>none
 |.eql,.nilmap,.nilmap=>match d with
  |.map _ _=>some (.bool true,True)
  |_=>none
 |.neq,.nilmap,.nilmap=>match d with
  |.map _ _=>some (.bool false,True)
  |_=>none
 |.eql,.nilptr,.nilptr=>match d with
  |.pointer _=>some (.bool true,True)
  |_=>none
 |.neq,.nilptr,.nilptr=>match d with
  |.pointer _=>some (.bool false,True)
  |_=>none
 |_,_,_=>none
theorem wud{x y:ByteArray}:(x.toList==y.toList)=decide (x.data.toList=y.data.toList):=by
 rw[ByteArray.toList_eq,ByteArray.toList_eq]
 by_cases h:x.data.toList=y.data.toList
 .simp[h]
 .rw[decide_eq_false h];simpa using h
section
variable {P:Program} (w:World) (n:Nat) {t:TypeId}
theorem wsw(h:P.underlying t=some .bool)(a b:Bool):(Op.equalIn (n+1) t (.bool a) (.bool b)).run P w= .ok (a==b) w:=by simp[Op.equalIn,run_underlying h]
theorem wyf{e:TypeId}(h:P.underlying t=some (.pointer e))(a:Addr):(Op.equalIn (n+1) t (.pointer (some a)) (.pointer none)).run P w= .ok false w:=by simp[Op.equalIn,run_underlying h]
theorem wyg{m:Array (String×TypeId)}(h:P.underlying t=some (.interface m)):(Op.equalIn (n+1) t .nilIface .nilIface).run P w= .ok true w:=by simp[Op.equalIn,run_underlying h]
theorem wyj{m:Array (String×TypeId)}(h:P.underlying t=some (.interface m))(d:TypeId)(v:Value):(Op.equalIn (n+1) t (.iface d v) .nilIface).run P w= .ok false w:=by simp[Op.equalIn,run_underlying h]
theorem wlu{e:TypeId}(h:P.underlying t=some (.slice e))(a:Addr)(m c:Nat):(Op.equalIn (n+1) t (.slice (some a) m c) (.slice none 0 0)).run P w= .ok false w:=by simp[Op.equalIn,run_underlying h]
theorem wyd{e:TypeId}(h:P.underlying t=some (.slice e)):(Op.equalIn (n+1) t (.slice none 0 0) (.slice none 0 0)).run P w= .ok true w:=by simp[Op.equalIn,run_underlying h]
theorem wyi{e e':TypeId}(h:P.underlying t=some (.map e e'))(a:Nat):(Op.equalIn (n+1) t (.map (some a)) (.map none)).run P w= .ok false w:=by simp[Op.equalIn,run_underlying h]
theorem wyh{e e':TypeId}(h:P.underlying t=some (.map e e')):(Op.equalIn (n+1) t (.map none) (.map none)).run P w= .ok true w:=by simp[Op.equalIn,run_underlying h]
theorem wye{e:TypeId}(h:P.underlying t=some (.pointer e)):(Op.equalIn (n+1) t (.pointer none) (.pointer none)).run P w= .ok true w:=by simp[Op.equalIn,run_underlying h]
theorem wb3{x y:Value}{b:Bool}(h:∀n,(Op.equalIn (n+1) t x y).run P w= .ok b w):(Op.equal t x y).run P w= .ok b w:=h 9999
end
theorem wed{P:Program}{w:World}{t:TypeId}{x y:Value}{b:Bool}(he:∀w:World,(Op.equal t x y).run P w= .ok b w)(hb:binOp .eql t x y=do pure (.bool (← Op.equal t x y))):(binOp .eql t x y).run P w= .ok (.bool b) w:=by
 simp[hb,he]
theorem wd6{P:Program}{w:World}{t:TypeId}{x y:Value}{b:Bool}(he:∀w:World,(Op.equal t x y).run P w= .ok b w)(hb:binOp .neq t x y=do pure (.bool (!(← Op.equal t x y)))):(binOp .neq t x y).run P w= .ok (.bool (!b)) w:=by
 simp[hb,he]
theorem w8u{P:Program}{te:TE}(hte:TE.ok P te){w:World}{M:Nat->Prop}{bs:Nat->Option Hd}{t:TypeId}{ti:TI}(ht:lk te t=some ti){op:BinOp}{x y:Value}{a b:AV}{u:AV}{vc:Prop}
  (hx:V w M bs x a) (hy:V w M bs y b) (h:binA ti.desc op a b=some (u,vc)) (hvc:vc):∃v,(binOp op t x y).run P w= .ok v w/\V w M bs v u:=by
 obtain⟨hu,_⟩:=hte t ti ht;unfold binA at h;split at h
 case h_1 | h_2 | h_3=>
  split at h
  .rename_i hk;subst hk;cases hx;cases hy;rw[w81 h hvc];exact⟨.int _ _,by simp[go_sem],.int⟩
  .cases h
 case h_4=>
  split at h<;>simp only[sI7,pI7,reduceCtorEq] at h
  obtain⟨rfl,rfl⟩:=h;rename_i hk;subst hk;cases hx;cases hy;exact⟨.int _ _,by simp[go_sem,hvc.1,wj5 hvc.2],.int⟩
 case h_5=>
  split at h<;>simp only[sI7,pI7,reduceCtorEq] at h
  obtain⟨rfl,rfl⟩:=h;rename_i hk;subst hk;cases hx;cases hy;exact⟨.int _ _,by simp[go_sem,hvc],.int⟩
 case h_6 | h_7 | h_8=>
  split at h<;>simp only[sI7,pI7,reduceCtorEq] at h
  obtain⟨rfl,rfl⟩:=h;rename_i hk;subst hk;cases hx;cases hy;exact⟨.int _ _,by simp only[go_sem,Sem.run_pure],.int⟩
 case h_9=>
  simp only[sI7,pI7] at h;obtain⟨rfl,rfl⟩:=h;cases hx;cases hy;exact⟨.int _ _,by rw[binOp_shl,shift_shl _ _ _ _ hvc.1 hvc.2];rfl,.int⟩
 case h_10=>
  simp only[sI7,pI7] at h;obtain⟨rfl,rfl⟩:=h;cases hx;cases hy;exact⟨.int _ _,by rw[binOp_shr,shift_shr _ _ _ _ hvc.1 hvc.2];rfl,.int⟩
 case h_11 | h_12 | h_13 | h_14 | h_15 | h_16=>
  split at h<;>simp only[sI7,pI7,reduceCtorEq] at h
  obtain⟨rfl,rfl⟩:=h;rename_i hk;subst hk;cases hx;cases hy;exact⟨.bool _,by simp only[go_sem,Sem.run_pure]<;>rfl,.bool⟩
 case h_17=>
  simp only[sI7,pI7] at h;obtain⟨rfl,rfl⟩:=h;cases hx with | str hx=>cases hy with | str hy=>
  rename_i s1 s2;refine⟨.string (s1++s2),?_,.str (by rw[← hx, ← hy];simp)⟩;have e1:s1.size=s1.data.toList.length:=by simp
  have e2:s2.size=s2.data.toList.length:=by simp
  have:¬ ((s1.size+s2.size:Nat):Int) > IntKind.i64.max:=by rw[IntKind.max_i64,e1,e2,hx,hy];omega
  simp[binOp,Op.stringOp];simp at this;omega
 case h_18 | h_19 | h_20 | h_21 | h_22 | h_23=>
  simp only[sI7,pI7] at h;obtain⟨rfl,rfl⟩:=h;cases hx with | str hx=>cases hy with | str hy=>
  subst hx;subst hy;exact⟨.bool _,by simp only[binOp,Op.stringOp,Sem.run_pure,wud]<;>simp only[ByteArray.toList_eq],.bool⟩
 case h_24=>
  split at h<;>simp only[sI7,pI7,reduceCtorEq] at h
  rename_i hd;obtain⟨rfl,rfl⟩:=h;rw[hd] at hu;cases hx;cases hy;exact⟨.bool _,wed (λw=>wb3 w λn=>wsw w n hu _ _) rfl,.bool⟩
 case h_25=>
  split at h<;>simp only[sI7,pI7,reduceCtorEq] at h
  rename_i hd;obtain⟨rfl,rfl⟩:=h;rw[hd] at hu;cases hx;cases hy;exact⟨.bool _,wd6 (λw=>wb3 w λn=>wsw w n hu _ _) rfl,.bool⟩
 case h_26=>
  split at h<;>simp only[sI7,pI7,reduceCtorEq] at h
  rename_i hd;obtain⟨rfl,rfl⟩:=h;rw[hd] at hu;cases hx;cases hy;exact⟨.bool _,wed (λw=>wb3 w λn=>wyf w n hu _) rfl,.bool⟩
 case h_27=>
  split at h<;>simp only[sI7,pI7,reduceCtorEq] at h
  rename_i hd;obtain⟨rfl,rfl⟩:=h;rw[hd] at hu;cases hx;cases hy;exact⟨.bool _,wd6 (λw=>wb3 w λn=>wyf w n hu _) rfl,.bool⟩
 case h_28=>
  split at h<;>simp only[sI7,pI7,reduceCtorEq] at h
  rename_i hd;obtain⟨rfl,rfl⟩:=h;rw[hd] at hu;cases hx;cases hy;exact⟨.bool _,wed (λw=>wb3 w λn=>wyg w n hu) rfl,.bool⟩
 case h_29=>
  split at h<;>simp only[sI7,pI7,reduceCtorEq] at h
  rename_i hd;obtain⟨rfl,rfl⟩:=h;rw[hd] at hu;cases hx;cases hy;exact⟨.bool _,wd6 (λw=>wb3 w λn=>wyg w n hu) rfl,.bool⟩
 case h_30=>
  split at h<;>simp only[sI7,pI7,reduceCtorEq] at h
  rename_i hd;obtain⟨rfl,rfl⟩:=h;rw[hd] at hu;cases hx;cases hy;exact⟨.bool _,wed (λw=>wb3 w λn=>wyj w n hu _ _) rfl,.bool⟩
 case h_31=>
  split at h<;>simp only[sI7,pI7,reduceCtorEq] at h
  rename_i hd;obtain⟨rfl,rfl⟩:=h;rw[hd] at hu;cases hx;cases hy;exact⟨.bool _,wd6 (λw=>wb3 w λn=>wyj w n hu _ _) rfl,.bool⟩
 case h_32=>
  split at h<;>simp only[sI7,pI7,reduceCtorEq] at h
  rename_i hd;obtain⟨rfl,rfl⟩:=h;rw[hd] at hu;cases hy
  cases hx with | view ad cv hn hcm hA hl hc h1 hv=>
  obtain⟨rfl,_⟩:=hA (Nat.succ_pos _);exact⟨.bool _,wed (λw=>wb3 w λn=>wlu w n hu _ _ _) rfl,.bool⟩
 case h_33=>
  split at h<;>simp only[sI7,pI7,reduceCtorEq] at h
  rename_i hd;obtain⟨rfl,rfl⟩:=h;rw[hd] at hu;cases hy
  cases hx with | view ad cv hn hcm hA hl hc h1 hv=>
  obtain⟨rfl,_⟩:=hA (Nat.succ_pos _);exact⟨.bool _,wd6 (λw=>wb3 w λn=>wlu w n hu _ _ _) rfl,.bool⟩
 case h_34=>
  split at h<;>simp only[sI7,pI7,reduceCtorEq] at h
  rename_i hd;obtain⟨rfl,rfl⟩:=h;rw[hd] at hu;cases hy
  cases hx with
  |ownnil h hn=>cases hn
  |own h hn hcm=>
  exact⟨.bool _,wed (λw=>wb3 w λn=>wlu w n hu _ _ _) rfl,.bool⟩
 case h_35=>
  split at h<;>simp only[sI7,pI7,reduceCtorEq] at h
  rename_i hd;obtain⟨rfl,rfl⟩:=h;rw[hd] at hu;cases hy
  cases hx with
  |ownnil h hn=>cases hn
  |own h hn hcm=>
  exact⟨.bool _,wd6 (λw=>wb3 w λn=>wlu w n hu _ _ _) rfl,.bool⟩
 case h_36=>
  split at h<;>simp only[sI7,pI7,reduceCtorEq] at h
  rename_i hd;obtain⟨rfl,rfl⟩:=h;rw[hd] at hu;cases hy
  cases hx;exact⟨.bool _,wed (λw=>wb3 w λn=>wyd w n hu ) rfl,.bool⟩
 case h_37=>
  split at h<;>simp only[sI7,pI7,reduceCtorEq] at h
  rename_i hd;obtain⟨rfl,rfl⟩:=h;rw[hd] at hu;cases hy
  cases hx;exact⟨.bool _,wd6 (λw=>wb3 w λn=>wyd w n hu ) rfl,.bool⟩
 case h_38=>
  split at h<;>simp only[sI7,pI7,reduceCtorEq] at h
  rename_i hd;obtain⟨rfl,rfl⟩:=h;rw[hd] at hu;cases hy
  cases hx;exact⟨.bool _,wed (λw=>wb3 w λn=>wyi w n hu _) rfl,.bool⟩
 case h_39=>
  split at h<;>simp only[sI7,pI7,reduceCtorEq] at h
  rename_i hd;obtain⟨rfl,rfl⟩:=h;rw[hd] at hu;cases hy
  cases hx;exact⟨.bool _,wd6 (λw=>wb3 w λn=>wyi w n hu _) rfl,.bool⟩
 case h_40=>
  split at h<;>simp only[sI7,pI7,reduceCtorEq] at h
  rename_i hd;obtain⟨rfl,rfl⟩:=h;rw[hd] at hu;cases hy
  cases hx;exact⟨.bool _,wed (λw=>wb3 w λn=>wyh w n hu ) rfl,.bool⟩
 case h_41=>
  split at h<;>simp only[sI7,pI7,reduceCtorEq] at h
  rename_i hd;obtain⟨rfl,rfl⟩:=h;rw[hd] at hu;cases hy
  cases hx;exact⟨.bool _,wd6 (λw=>wb3 w λn=>wyh w n hu ) rfl,.bool⟩
 case h_42=>
  split at h<;>simp only[sI7,pI7,reduceCtorEq] at h
  rename_i hd;obtain⟨rfl,rfl⟩:=h;rw[hd] at hu;cases hy
  cases hx;exact⟨.bool _,wed (λw=>wb3 w λn=>wye w n hu ) rfl,.bool⟩
 case h_43=>
  split at h<;>simp only[sI7,pI7,reduceCtorEq] at h
  rename_i hd;obtain⟨rfl,rfl⟩:=h;rw[hd] at hu;cases hy
  cases hx;exact⟨.bool _,wd6 (λw=>wb3 w λn=>wye w n hu ) rfl,.bool⟩
 case h_44=>cases h
section
variable {P:Program} {te:TE} (hte:TE.ok P te) {w:World} {M:Nat->Prop} {bs:Nat->Option Hd}
include hte
theorem wbt{t:TypeId}{ti:TI}(ht:lk te t=some ti):(underlying t).run P w= .ok ti.desc w:=run_underlying (hte t ti ht).1 w
theorem wdk{t:TypeId}{ti:TI}(ht:lk te t=some ti):(sizeOf t).run P w= .ok ti.sz w:=by
 obtain⟨_,⟨i,hi,hs,_⟩,_⟩:=hte t ti ht;simp[sizeOf,typeInfo,hi,hs]
theorem wgh{t:TypeId}{ti:TI}(ht:lk te t=some ti):(zeroValue t).run P w= .ok ti.zero w:=by
 obtain⟨_,⟨i,hi,_,_,hz⟩,_⟩:=hte t ti ht;simp[zeroValue,typeInfo,hi,hz]
end
def wlr(te:TE)(t:TypeId)(k:Nat):Option Field:=
 match lk te t with
 |some ti=>match ti.desc with
  |.struct fs=>fs.toList[k]?
  |_=>none
 |none=>none
def wsv(te:TE)(t:TypeId)(u:AV)(k:Nat):Option AV:=
 match wlr te t k with
 |some f=>match lk te f.type with
  |some ti=>match ti.sz with
   |0=>none
   |_+1=>match u with
    |.ptr r off=>some (.ptr r (off+f.offset))
    |.eptr r sz i off=>some (.eptr r sz i (off+f.offset))
    |.vptr g=>some (.vptr (wce f.offset g))
    |_=>none
  |none=>none
 |none=>none
theorem wtm(a:Addr)(i j:Nat):(a.add i).add j=a.add (i+j):=by
 unfold Addr.add
 by_cases hi:i=0<;>by_cases hj:j=0<;>simp[hi,hj,Nat.add_assoc]
theorem V.vdrop{w:World}{M:Nat->Prop}{bs:Nat->Option Hd}{ad:Addr}{g:List AV}(k:Nat)(h:V w M bs (.pointer (some ad)) (.vptr g)):V w M bs (.pointer (some (ad.add k))) (.vptr (wce k g)):=by
 cases h with
 |vptr cv hM hb hc h1 hv=>
  rw[wdn];refine .vptr (λj=>cv (k+j)) (by rw[wef];exact hM) (by rw[wef];exact hb) (λj hj=>?_) (λj hj=>?_) (λj u hu=>?_)
  .rw[List.length_drop] at hj;rw[wtm];exact hc _ (by omega)
  .rw[List.length_drop] at hj;exact h1 _ (by omega)
  .rw[List.getElem?_drop] at hu;exact hv _ _ hu
theorem w7l{P:Program}{te:TE}(hte:TE.ok P te){w:World}{M:Nat->Prop}{bs:Nat->Option Hd}{t:TypeId}{k:Nat}{x:Value}{a u:AV}(hx:V w M bs x a)(h:wsv te t a k=some u):
  ∃v,(Instr.fieldAt t x k).run P w= .ok v w/\V w M bs v u:=by
 unfold wsv at h;split at h
 .rename_i f hf;split at h
  .rename_i ti hti;split at h
   .cases h
   .rename_i s hs;unfold wlr at hf;split at hf
    .rename_i ts hts;split at hf
     .rename_i fs hfs;have hu:=wbt hte (w:=w) hts;rw[hfs] at hu;have hf':fs[k]?=some f:=by rw[← hf];simp
      have hsz:=wdk hte (w:=w) hti;have key:∀ad,x= .pointer (some ad)->(Instr.fieldAt t x k).run P w= .ok (.pointer (some (ad.add f.offset))) w:=by
       intro ad e;subst e;simp[Instr.fieldAt,hu,hf',Instr.sureAddr,fieldPlace,hsz,hs]
      split at h<;>simp only[sI7,reduceCtorEq] at h<;>subst h
      .cases hx with
       |ptr hb=>exact⟨_,key _ rfl,by rw[Addr.add_lit];exact .ptr hb⟩
      .cases hx with
       |eptr hb=>exact⟨_,key _ rfl,by rw[Addr.add_lit,Nat.add_assoc];exact .eptr hb⟩
      .cases hx with
       |vptr cv hM hb hc h1 hv=>exact⟨_,key _ rfl,V.vdrop _ (.vptr cv hM hb hc h1 hv)⟩
     .cases hf
    .cases hf
  .cases h
 .cases h
def wsj(te:TE)(t:TypeId)(u:AV)(k:Int):Option (AV×Prop):=
 match lk te t with
 |some ti=>match ti.desc with
  |.slice e=>match lk te e with
   |some te'=>match u with
    |.view sz n f=>some (.vptr (f k.toNat),0<=k/\k<n/\sz=te'.sz)
    |.own r n=>some (.eptr r te'.sz k.toNat 0,0<=k/\k<n)
    |.sub r sz off n=>some (.eptr r te'.sz (off+k.toNat) 0,0<=k/\k<n/\sz=te'.sz)
    |_=>none
   |none=>none
  |.array len e=>match lk te e with
   |some te'=>match u with
    |.ptr r off=>some (.ptr r (off+k.toNat * te'.sz),0<=k/\k<len)
    |_=>none
   |none=>none
  |_=>none
 |none=>none
theorem w61{P:Program}{te:TE}(hte:TE.ok P te){w:World}{M:Nat->Prop}{bs:Nat->Option Hd}{t:TypeId}{kd:IntKind}{k:Int}{x:Value}{a u:AV}{vc:Prop}(hx:V w M bs x a)
  (h:wsj te t a k=some (u,vc)) (hvc:vc):∃v,(Instr.indexAt t x (.int kd k)).run P w= .ok v w/\V w M bs v u:=by
 unfold wsj at h;split at h
 .rename_i ti hti;split at h
  .rename_i e he;split at h
   .rename_i te' hte';have hu:=wbt hte (w:=w) hti;rw[he] at hu;have hsz:=wdk hte (w:=w) hte';have key:∀ad n c,x= .slice (some ad) n c->0<=k->k<n->(Instr.indexAt t x (.int kd k)).run P w= .ok (.pointer (some (ad.add (k.toNat * te'.sz)))) w:=by
     intro ad n c ex h0 h1;subst ex;simp[Instr.indexAt,hu,asIntOf,h0,h1,hsz]
    split at h<;>simp only[sI7,pI7,reduceCtorEq] at h<;>obtain⟨rfl,rfl⟩:=h
    .rename_i sz n f;obtain⟨h0,h1,rfl⟩:=hvc
     cases hx with
     |view ad cv hn hcm hA hl hc h1' hv=>
      obtain⟨rfl,hM,hb⟩:=hA (by omega);have hk:k.toNat<n:=by omega
      have hlen:=hl _ hk;refine⟨_,key _ _ _ rfl h0 h1,.vptr (cv k.toNat) (by rw[wef];exact hM) (by rw[wef];exact hb) (λj hj=>?_) (λj hj=>?_) (λj u hu=>hv _ hk _ _ hu)⟩
      .rw[wtm];exact hc _ hk _ (by omega)
      .exact h1' _ hk _ (by omega)
    .rename_i r n
     cases hx with
     |own hb hn hcm=>
      refine⟨_,key _ _ _ rfl hvc.1 hvc.2,?_⟩;rw[Addr.add_lit,Nat.zero_add];exact .eptr (off:=0) hb
     |ownnil hb hn=>omega
    .rename_i r sz off n;obtain⟨h0,h1,rfl⟩:=hvc
     cases hx with
     |sub hb hn hcm hA=>
      obtain rfl:=hA (by omega);refine⟨_,key _ _ _ rfl h0 h1,?_⟩;rw[Addr.add_lit, ← Nat.add_mul];exact .eptr (off:=0) hb
     |subnil hb hn ho=>omega
   .cases h
  .rename_i len e he;split at h
   .rename_i te' hte';have hu:=wbt hte (w:=w) hti;rw[he] at hu;have hsz:=wdk hte (w:=w) hte';split at h<;>simp only[sI7,pI7,reduceCtorEq] at h;obtain⟨rfl,rfl⟩:=h
    cases hx with
    |ptr hb=>
     refine⟨_,?_,.ptr hb⟩;simp[Instr.indexAt,hu,asIntOf,hvc.1,hvc.2,hsz,Instr.sureAddr,Addr.add_lit]
   .cases h
  .cases h
 .cases h
def wgu:Option AV->Option (Option Int)
 |none=>some none
 |some (.int _ k)=>some (some k)
 |_=>none
def wq1(te:TE)(t:TypeId)(u:AV)(lo hi mx:Option AV):Option (AV×Prop):=
 match lk te t with
 |some ti=>match wgu lo,wgu hi,wgu mx with
   |some lo,some hi,some none=>match ti.desc,u with
     |.string,.str s=>match lo,hi with
       |none,none=>some (.str s,True)
       |none,some h=>some (.str (s.take h.toNat),0<=h/\h<=s.length)
       |some l,none=>some (.str (s.drop l.toNat),0<=l/\l<=s.length)
       |some l,some h=>some (.str ((s.take h.toNat).drop l.toNat),0<=l/\l<=h/\h<=s.length)
     |.slice e,.view sz n f=>match lk te e with
       |some te'=>match lo,hi with
         |none,none=>some (.view sz n f,True)
         |none,some h=>some (.view sz h.toNat f,0<=h/\h<=n)
         |some l,none=>some (.view sz (n - l.toNat) (λi=>f (l.toNat+i)),0<=l/\l<=n/\sz=te'.sz)
         |some l,some h=>some (.view sz (h.toNat - l.toNat) (λi=>f (l.toNat+i)),0<=l/\l<=h/\h<=n/\sz=te'.sz)
       |none=>none
     |.slice e,.own r n=>match lk te e with
       |some te'=>match lo,hi with
         |none,none=>some (.own r n,True)
         |none,some h=>some (.own r h.toNat,0<=h/\h<=n)
         |some l,none=>some (.sub r te'.sz l.toNat (n - l.toNat),0<=l/\l<=n)
         |some l,some h=>some (.sub r te'.sz l.toNat (h.toNat - l.toNat),0<=l/\l<=h/\h<=n)
       |none=>none
     |.slice e,.nil=>match lk te e with
       |some _=>match lo,hi with
         |none,none=>some (.nil,True)
         |none,some h=>some (.nil,h=0)
         |some l,none=>some (.nil,l=0)
         |some l,some h=>some (.nil,l=0/\h=0)
       |none=>none
     |_,_=>none
   |some (some l),some (some h),some (some m)=>match ti.desc with
     |.slice e=>match lk te e with
      |none=>none
      |some _=>match u with
       |.view _ _ _=>some (.empty,l=0/\h=0/\m=0)
       |.own _ _=>some (.empty,l=0/\h=0/\m=0)
       |.nil=>some (.empty,l=0/\h=0/\m=0)
       |_=>none
     |_=>none
   |_,_,_=>none
 |none=>none
theorem wkm{P:Program}{w:World}{k:IntKind}{i:Int}{y:Nat}{c:BoundsCode}(h0:0<=i)(h1:i<=y):(Instr.sliceBound (.int k i) y c).run P w= .ok i.toNat w:=by
 simp[Instr.sliceBound,asIntOf,h0,h1]
theorem wkl{P:Program}{w:World}{isS:Bool}{len cap:Nat}{lo hi:Option Value}{l h:Option Int}
  (hlo:∀v,lo=some v->∃k i,v= .int k i/\l=some i) (hlo':lo=none->l=none) (hhi:∀v,hi=some v->∃k i,v= .int k i/\h=some i) (hhi':hi=none->h=none)
  (h1:0<=l.getD 0) (h2:l.getD 0<=h.getD len) (h3:h.getD len<=cap):
  (Instr.sliceBounds isS len cap lo hi none).run P w= .ok ((l.getD 0).toNat,(h.getD len).toNat,cap) w:=by
 cases hi with
 |none=>
  obtain rfl:=hhi' rfl
  cases lo with
  |none=>
   obtain rfl:=hlo' rfl;simp[Instr.sliceBounds]
  |some v=>
   obtain⟨k,i,rfl,rfl⟩:=hlo v rfl;simp only[Option.getD_some,Option.getD_none] at h1 h2 h3 ⊢;simp[Instr.sliceBounds,wkm h1 h2]
 |some u=>
  obtain⟨k',i',rfl,rfl⟩:=hhi u rfl
  cases lo with
  |none=>
   obtain rfl:=hlo' rfl;simp only[Option.getD_some,Option.getD_none] at h1 h2 h3 ⊢;simp[Instr.sliceBounds,wkm (show 0<=i' by omega) h3]
  |some v=>
   obtain⟨k,i,rfl,rfl⟩:=hlo v rfl;simp only[Option.getD_some] at h1 h2 h3 ⊢;simp[Instr.sliceBounds,wkm (show 0<=i' by omega) h3,wkm (y:=i'.toNat) h1 (by omega)]
theorem whs{w:World}{M:Nat->Prop}{bs:Nat->Option Hd}{lo:Option Value}{a:Option AV}{l:Option Int}(h:wgu a=some l)(hv:∀v,lo=some v->∃u,a=some u/\V w M bs v u)(hn:lo=none->a=none):
  (∀v,lo=some v->∃k i,v= .int k i/\l=some i)/\(lo=none->l=none):=by
 cases lo with
 |none=>
  obtain rfl:=hn rfl;simp only[wgu,sI7] at h;exact⟨λv hv=>(by cases hv),λ_=>h.symm⟩
 |some v=>
  refine⟨λv' hv'=>?_,λhh=>by cases hh⟩
  cases hv';obtain⟨u,rfl,hV⟩:=hv v rfl
  cases u with
  |int k i=>
   simp only[wgu,sI7] at h
   cases hV;exact⟨_,_,rfl,h.symm⟩
  |_=>simp[wgu] at h
theorem V.vcut{w:World}{M:Nat->Prop}{bs:Nat->Option Hd}{A:Option Addr}{n c sz:Nat}{f:Nat->List AV}(h:V w M bs (.slice A n c) (.view sz n f)){l m:Nat}(hl:l<=m)(hm:m<=n):
  V w M bs (.slice (if c=l then A else A.map (·.add (l * sz))) (m - l) (c - l)) (.view sz (m - l) λi=>f (l+i)):=by
 cases h with
 |view ad cv hn hcm hA hlen hc h1 hv=>
  refine .view (ad.add (l * sz)) (λi=>cv (l+i)) (by omega) (by omega) (λh0=>?_) (λi hi=>hlen _ (by omega)) (λi hi j hj=>?_) (λi hi j hj=>h1 _ (by omega) _ hj) (λi hi j u hu=>hv _ (by omega) _ _ hu)
  .obtain⟨rfl,hM,hb⟩:=hA (by omega);exact⟨by rw[if_neg (by omega)];rfl,by rw[wef];exact hM,by rw[wef];exact hb⟩
  .rw[wtm];have:=hc (l+i) (by omega) j hj
   rwa [Nat.add_mul,Nat.add_assoc] at this
theorem V.vless{w:World}{M:Nat->Prop}{bs:Nat->Option Hd}{A:Option Addr}{n c sz:Nat}{f:Nat->List AV}(h:V w M bs (.slice A n c) (.view sz n f)){m:Nat}(hm:m<=n):
  V w M bs (.slice A m c) (.view sz m f):=by
 cases h with
 |view ad cv hn hcm hA hlen hc h1 hv=>
  exact .view ad cv (by omega) hcm (λh0=>hA (by omega)) (λi hi=>hlen _ (by omega)) (λi hi j hj=>hc _ (by omega) _ hj) (λi hi j hj=>h1 _ (by omega) _ hj) (λi hi j u hu=>hv _ (by omega) _ _ hu)
theorem w0t{P:Program}{te:TE}(hte:TE.ok P te){w:World}{M:Nat->Prop}{bs:Nat->Option Hd}{t:TypeId}{x:Value}{a u:AV}{vc:Prop}{lo hi mx:Option Value}{al ah am:Option AV}(hx:V w M bs x a)
  (hl:∀v,lo=some v->∃u,al=some u/\V w M bs v u) (hl':lo=none->al=none) (hh:∀v,hi=some v->∃u,ah=some u/\V w M bs v u) (hh':hi=none->ah=none)
  (hm:∀v,mx=some v->∃u,am=some u/\V w M bs v u) (hm':mx=none->am=none)
  (h:wq1 te t a al ah am=some (u,vc)) (hvc:vc):∃v,(Instr.sliceAt t x lo hi mx).run P w= .ok v w/\V w M bs v u:=by
 unfold wq1 at h;split at h
 case h_2=>cases h
 rename_i ti hti;have hu:=wbt hte (w:=w) hti;split at h
 case h_3=>cases h
 .rename_i l h' e1 e2 e3;obtain⟨bl,bl'⟩:=whs e1 hl hl';obtain⟨bh,bh'⟩:=whs e2 hh hh';obtain⟨bm,bm'⟩:=whs e3 hm hm';have hmx:mx=none:=by
   cases mx with
   |none=>rfl
   |some v=>obtain⟨k,i,_,hc⟩:=bm v rfl;cases hc
  subst hmx;split at h
  .rename_i s hd;rw[hd] at hu
   cases hx with
   |str hs=>
    rename_i b;have hlen:b.size=s.length:=by rw[← hs];simp
    have key:0<=l.getD 0->l.getD 0<=h'.getD s.length->h'.getD s.length<=s.length->
      (Instr.sliceAt t (.string b) lo hi none).run P w= .ok (.string (b.extract (l.getD 0).toNat (h'.getD s.length).toNat)) w:=by
     intro k1 k2 k3;have:=wkl (P:=P) (w:=w) (isS:=false) (len:=b.size) (cap:=b.size) bl bl' bh bh' k1 (by rw[hlen];exact k2) (by rw[hlen];exact k3);rw[← hlen];simp[Instr.sliceAt,hu,Instr.slice,this]
    have ext:∀i j,(b.extract i j).data.toList=(s.take j).drop i:=by
     intro i j;rw[← hs];simp[ByteArray.data_extract,Array.toList_extract,List.extract_eq_take_drop,List.drop_take]
    split at h<;>simp only[sI7,pI7] at h<;>obtain⟨rfl,rfl⟩:=h
    .refine⟨_,key (by simp) (by simp) (by simp),.str ?_⟩;rw[ext];simp
    .simp only[Option.getD_none,Option.getD_some] at key;refine⟨_,key (by omega) (by omega) (by omega),.str ?_⟩;rw[ext];simp
    .simp only[Option.getD_none,Option.getD_some] at key;refine⟨_,key (by omega) (by omega) (by omega),.str ?_⟩;rw[ext];simp
    .simp only[Option.getD_some] at key;refine⟨_,key (by omega) (by omega) (by omega),.str ?_⟩;rw[ext]
  .rename_i e sz n f hd;rw[hd] at hu;split at h
   case h_2=>cases h
   rename_i te' hte';have hsz:=wdk hte (w:=w) hte';have hx':=hx
   cases hx with
   |view ad cv hn hcm hA hlen hc h1 hv=>
    rename_i A c;have key:0<=l.getD 0->l.getD 0<=h'.getD n->h'.getD n<=n->
      (Instr.sliceAt t (.slice A n c) lo hi none).run P w= .ok (.slice (if c=(l.getD 0).toNat then A else A.map (·.add ((l.getD 0).toNat * te'.sz))) ((h'.getD n).toNat - (l.getD 0).toNat) (c - (l.getD 0).toNat)) w:=by
     intro k1 k2 k3;have:=wkl (P:=P) (w:=w) (isS:=true) (len:=n) (cap:=c) bl bl' bh bh' k1 k2 (by omega);simp[Instr.sliceAt,hu,Instr.slice,this,hsz]
    split at h<;>simp only[sI7,pI7] at h<;>obtain⟨rfl,rfl⟩:=h
    .refine⟨_,key (by simp) (by simp) (by simp),?_⟩;simpa[Addr.add_zero'] using hx'
    .simp only[Option.getD_none,Option.getD_some] at key;refine⟨_,key (by omega) (by omega) (by omega),?_⟩;simp only[Int.toNat_zero,Nat.zero_mul,Addr.add_zero',Option.map_id',ite_self,Nat.sub_zero];exact hx'.vless (by omega)
    .obtain⟨v1,v2,rfl⟩:=hvc;simp only[Option.getD_none,Option.getD_some] at key;refine⟨_,key (by omega) (by omega) (by omega),?_⟩;exact hx'.vcut (m:=n) (by omega) (lR7 _)
    .obtain⟨v1,v2,v3,rfl⟩:=hvc;simp only[Option.getD_some] at key;refine⟨_,key (by omega) (by omega) (by omega),?_⟩;exact hx'.vcut (by omega) (by omega)
  .rename_i e r n hd;rw[hd] at hu;split at h
   case h_2=>cases h
   rename_i te' hte';have hsz:=wdk hte (w:=w) hte';have key:∀A c,x= .slice A n c->n<=c->0<=l.getD 0->l.getD 0<=h'.getD n->h'.getD n<=n->
     (Instr.sliceAt t x lo hi none).run P w= .ok (.slice (if c=(l.getD 0).toNat then A else A.map (·.add ((l.getD 0).toNat * te'.sz))) ((h'.getD n).toNat - (l.getD 0).toNat) (c - (l.getD 0).toNat)) w:=by
    intro A c ex hn k1 k2 k3;subst ex;have:=wkl (P:=P) (w:=w) (isS:=true) (len:=n) (cap:=c) bl bl' bh bh' k1 k2 (by omega);simp[Instr.sliceAt,hu,Instr.slice,this,hsz]
   cases hx with
   |own hb hn hcm=>
    rename_i b c;replace key:=key _ _ rfl hn;split at h<;>simp only[sI7,pI7] at h<;>obtain⟨rfl,rfl⟩:=h
    .refine⟨_,key (by simp) (by simp) (by simp),?_⟩;simpa[Addr.add_zero'] using V.own (w:=w) (M:=M) hb hn hcm
    .simp only[Option.getD_none,Option.getD_some] at key;refine⟨_,key (by omega) (by omega) (by omega),?_⟩;simp only[Int.toNat_zero,Nat.zero_mul,Addr.add_zero',Nat.sub_zero,Option.map_some,ite_self];exact .own hb (by omega) hcm
    .simp only[Option.getD_none,Option.getD_some] at key;refine⟨_,key (by omega) (by omega) (by omega),?_⟩;rw[tN7];exact .sub hb (by omega) hcm (λh0=>by rw[if_neg (by omega)];simp[Addr.add_lit])
    .simp only[Option.getD_some] at key;refine⟨_,key (by omega) (by omega) (by omega),?_⟩;exact .sub hb (by omega) hcm (λh0=>by rw[if_neg (by omega)];simp[Addr.add_lit])
   |ownnil hb hn=>
    rename_i A;subst hn;replace key:=key _ _ rfl (lR7 _);split at h<;>simp only[sI7,pI7] at h<;>obtain⟨rfl,rfl⟩:=h
    .refine⟨_,key (by simp) (by simp) (by simp),?_⟩;simpa using V.ownnil hb rfl
    .simp only[Option.getD_none,Option.getD_some] at key;refine⟨_,key (by omega) (by omega) (by omega),?_⟩;simp only[Int.toNat_zero,Nat.zero_mul,Addr.add_zero',Nat.sub_zero,ite_true];rw[show Int.toNat _=0 from by omega];exact .ownnil hb rfl
    .simp only[Option.getD_none,Option.getD_some] at key;refine⟨_,key (by omega) (by omega) (by omega),?_⟩;rename_i l0;have e:l0.toNat=0:=by omega
     simp only[e,ite_true];exact .subnil hb rfl rfl
    .simp only[Option.getD_some] at key;refine⟨_,key (by omega) (by omega) (by omega),?_⟩;rename_i l0 h0;have e:l0.toNat=0:=by omega
     have e':h0.toNat=0:=by omega
     simp only[e,e',ite_true];exact .subnil hb rfl rfl
  .rename_i e hd;rw[hd] at hu;split at h
   case h_2=>cases h
   rename_i te' hte';have hsz:=wdk hte (w:=w) hte'
   cases hx;have key:l.getD 0=0->h'.getD 0=0->(Instr.sliceAt t (.slice none 0 0) lo hi none).run P w= .ok (.slice none 0 0) w:=by
    intro k1 k2;have:=wkl (P:=P) (w:=w) (isS:=true) (len:=0) (cap:=0) bl bl' bh bh' (by omega) (by show l.getD 0<=h'.getD 0;omega) (by show h'.getD 0<=0;omega);rw[show ((0:Nat):Int)=0 from rfl,k1,k2] at this;simp[Instr.sliceAt,hu,Instr.slice,this,hsz]
   split at h<;>simp only[sI7,pI7] at h<;>obtain⟨rfl,rfl⟩:=h
   .exact⟨_,key rfl rfl,.nil⟩
   .exact⟨_,key rfl (by simpa using hvc),.nil⟩
   .exact⟨_,key (by simpa using hvc) rfl,.nil⟩
   .exact⟨_,key (by simpa using hvc.1) (by simpa using hvc.2),.nil⟩
  .cases h
 .rename_i l h' m e1 e2 e3;obtain⟨bl,bl'⟩:=whs e1 hl hl';obtain⟨bh,bh'⟩:=whs e2 hh hh';obtain⟨bm,bm'⟩:=whs e3 hm hm';have some_of:∀ {o:Option Value} {i:Int},(o=none->some i=none)->(∀v,o=some v->∃k j,v= .int k j/\some i=some j)->∃k,o=some (.int k i):=by
   intro o i h1 h2
   cases o with
   |none=>cases h1 rfl
   |some v=>
    obtain⟨k,j,rfl,e⟩:=h2 v rfl;injection e with e;subst e;exact⟨k,rfl⟩
  obtain⟨kl,rfl⟩:=some_of bl' bl;obtain⟨kh,rfl⟩:=some_of bh' bh;obtain⟨km,rfl⟩:=some_of bm' bm;split at h
  case h_2=>cases h
  rename_i e hd;rw[hd] at hu;split at h
  case h_1=>cases h
  rename_i te' hte';have hsz:=wdk hte (w:=w) hte';have key:∀A n c,x= .slice A n c->l=0/\h'=0/\m=0->∃v,(Instr.sliceAt t x (some (.int kl l)) (some (.int kh h')) (some (.int km m))).run P w= .ok v w/\V w M bs v .empty:=by
   rintro A n c rfl ⟨rfl,rfl,rfl⟩;refine⟨.slice A 0 0,?_,.empty⟩;simp[Instr.sliceAt,hu,Instr.slice,Instr.sliceBounds,Instr.sliceBound,asIntOf,hsz]
  split at h<;>simp only[sI7,pI7,reduceCtorEq] at h<;>obtain⟨rfl,rfl⟩:=h
  .cases hx;exact key _ _ _ rfl hvc
  .cases hx<;>exact key _ _ _ rfl hvc
  .cases hx;exact key _ _ _ rfl hvc
def CV(w:World)(M:Nat->Prop)(bs:Nat->Option Hd)(ag:Bool)(v:Value)(cs:List AV):Prop:=
 match ag with
 |true=>∃vs:Array Value,v= .agg vs/\vs.size=cs.length/\(∀(j:Nat) (x:Value),vs[j]?=some x->x.oneCell'=true)/\∀(j:Nat) x u,vs[j]?=some x->cs[j]?=some u->V w M bs x u
 |false=>∃u,cs=[u]/\V w M bs v u
def we3(rc:TypeId->List AV->List AV->Option Bool)(te:TE)(xs ys:List AV):List Field->Option Bool
 |[]=>some true
 |[f]=>match lk te f.type with
  |some tf=>match wcq tf.sz (wce f.offset xs),wcq tf.sz (wce f.offset ys) with
   |some a,some b=>rc f.type a b
   |_,_=>none
  |none=>none
 |f::fs=>match lk te f.type with
  |some tf=>match wcq tf.sz (wce f.offset xs),wcq tf.sz (wce f.offset ys) with
   |some a,some b=>match rc f.type a b,we3 rc te xs ys fs with
    |some p,some q=>some (p && q)
    |_,_=>none
   |_,_=>none
  |none=>none
def eqA(te:TE):Nat->TypeId->List AV->List AV->Option Bool
 |0,_,_,_=>none
 |d+1,t,xs,ys=>match lk te t with
  |some ti=>match ti.desc with
   |.int _=>match xs,ys with
    |[.int k a],[.int k' b]=>if k=k' then some (decide (a=b)) else none
    |_,_=>none
   |.string=>match xs,ys with
    |[.str a],[.str b]=>some (decide (a=b))
    |_,_=>none
   |.bool=>match xs,ys with
    |[.bool a],[.bool b]=>some (decide (a=b))
    |_,_=>none
   |.struct fs=>match ti.cmp with
    |true=>we3 (eqA te d) te xs ys fs.toList
    |false=>none
   |_=>none
  |none=>none
theorem wg9{P:Program}{te:TE}(hte:TE.ok P te){w:World}{M:Nat->Prop}{bs:Nat->Option Hd}{t:TypeId}{ti:TI}(ht:lk te t=some ti){vs:Array Value}{cs a:List AV}{off:Nat}
  (hn:wa8 ti.desc=false->ti.sz=1)
  (hsz:vs.size=cs.length) (h1:∀(j:Nat) (x:Value),vs[j]?=some x->x.oneCell'=true) (hV:∀(j:Nat) x u,vs[j]?=some x->cs[j]?=some u->V w M bs x u) (h:wcq ti.sz (wce off cs)=some a):
  ∃v,(part t vs off).run P w= .ok v w/\CV w M bs (wa8 ti.desc) v a:=by
 obtain⟨hl,rfl⟩:=wqp h;rw[wdn] at hl ⊢;rw[List.length_drop] at hl;have hu:=wbt hte (w:=w) ht;have hagg:(isAgg t).run P w= .ok (wa8 ti.desc) w:=by
  simp only[isAgg,Sem.run_bind,hu,Result.andThen_ok]
  cases ti.desc<;>simp[wa8]
 cases hd:wa8 ti.desc with
 |true=>
  refine⟨.agg (vs.extract off (off+ti.sz)),by simp[part,hagg,hd,wdk hte (w:=w) ht],_,rfl,?_,λj x hx=>?_,λj x u hx hu=>?_⟩
  .simp;omega
  .rw[Array.getElem?_extract] at hx;split at hx
   .exact h1 _ _ hx
   .cases hx
  .rw[Array.getElem?_extract] at hx;rw[List.getElem?_take,List.getElem?_drop] at hu;split at hx
   .split at hu
    .exact hV _ _ _ hx hu
    .cases hu
   .cases hx
 |false=>
  have hs:=hn hd;have hlt:off<vs.size:=by omega
  refine⟨vs[off],by simp[part,hagg,hd,hlt],cs[off]'(by omega),?_,hV off _ _ (by simp[hlt]) (by simp[show off<cs.length by omega])⟩;rw[hs,List.drop_eq_getElem_cons (by omega)];rfl
theorem wyl{P:Program}{te:TE}(hte:TE.ok P te){w:World}{M:Nat->Prop}{bs:Nat->Option Hd}{n:Nat}{rc:TypeId->List AV->List AV->Option Bool}
  (hn:∀t ti,lk te t=some ti->wa8 ti.desc=false->ti.sz=1)
  (hrc:∀t ti x y a b r,lk te t=some ti->CV w M bs (wa8 ti.desc) x a->CV w M bs (wa8 ti.desc) y b->rc t a b=some r->(Op.equalIn n t x y).run P w= .ok r w)
  {vs us:Array Value} {xs ys:List AV} (s1:vs.size=xs.length) (o1:∀(j:Nat) (x:Value),vs[j]?=some x->x.oneCell'=true) (V1:∀(j:Nat) x u,vs[j]?=some x->xs[j]?=some u->V w M bs x u)
  (s2:us.size=ys.length) (o2:∀(j:Nat) (x:Value),us[j]?=some x->x.oneCell'=true) (V2:∀(j:Nat) x u,us[j]?=some x->ys[j]?=some u->V w M bs x u):
  ∀(fs : List Field) (r : Bool), (∀f ∈ fs, f.name ≠ "_") -> we3 rc te xs ys fs = some r -> (Op.eqFields n vs us fs).run P w = .ok r w
 |[],r,_,h=>by simp[we3] at h;subst h;simp[Op.eqFields]
 |[f],r,hb,h=>by
  simp only[we3] at h;split at h
  .rename_i tf htf;split at h
   .rename_i a b ha hb';obtain⟨v,hv,cv⟩:=wg9 hte htf (hn _ _ htf) s1 o1 V1 ha;obtain⟨u,hu,cu⟩:=wg9 hte htf (hn _ _ htf) s2 o2 V2 hb';have:=hrc _ _ _ _ _ _ _ htf cv cu h;simp only[Op.eqFields,if_pos (hb f (by simp)),Sem.run_bind,hv,hu,this,Result.andThen_ok]
    cases r<;>simp
   .cases h
  .cases h
 |f::g::fs,r,hb,h=>by
  simp only[we3] at h;split at h
  .rename_i tf htf;split at h
   .rename_i a b ha hb';split at h
    .rename_i p q hp hq;simp only[sI7] at h;subst h;obtain⟨v,hv,cv⟩:=wg9 hte htf (hn _ _ htf) s1 o1 V1 ha;obtain⟨u,hu,cu⟩:=wg9 hte htf (hn _ _ htf) s2 o2 V2 hb';have h1:=hrc _ _ _ _ _ _ _ htf cv cu hp;have h2:=wyl hte hn hrc s1 o1 V1 s2 o2 V2 (g::fs) q (λx hx=>hb x (List.mem_cons_of_mem _ hx)) hq;rw[Op.eqFields];simp only[if_pos (hb f (by simp)),Sem.run_bind,hv,hu,h1,Result.andThen_ok]
     cases p<;>simp[h2]
    .cases h
   .cases h
  .cases h
theorem wsx{P:Program}{te:TE}(hte:TE.ok P te)(hn:∀t ti,lk te t=some ti->wa8 ti.desc=false->ti.sz=1){w:World}{M:Nat->Prop}{bs:Nat->Option Hd}:
  ∀(d n:Nat) (t:TypeId) (ti:TI) (x y:Value) (a b:List AV) (r:Bool),lk te t=some ti->CV w M bs (wa8 ti.desc) x a->CV w M bs (wa8 ti.desc) y b->eqA te d t a b=some r->(Op.equalIn (d+n) t x y).run P w= .ok r w
 |0,n,t,ti,x,y,a,b,r,ht,hx,hy,h=>by simp[eqA] at h
 |d+1,n,t,ti,x,y,a,b,r,ht,hx,hy,h=>by
  obtain⟨hu,_,hc⟩:=hte t ti ht;rw[show d+1+n=(d+n)+1 by omega];simp only[eqA,ht] at h;split at h
  .rename_i k hd;rw[hd] at hx hy hu;obtain⟨u,rfl,hV⟩:=hx;obtain⟨u',rfl,hV'⟩:=hy;split at h
   .rename_i e1 e2;simp only[List.cons.injEq,and_true] at e1 e2;subst e1;subst e2;split at h
    .rename_i hk;subst hk;simp only[sI7] at h;subst h
     cases hV;cases hV';rw[run_equalIn_int _ _ _ _ _ _ _ hu];rfl
    .cases h
   .cases h
  .rename_i hd;rw[hd] at hx hy hu;obtain⟨u,rfl,hV⟩:=hx;obtain⟨u',rfl,hV'⟩:=hy;split at h
   .rename_i e1 e2;simp only[List.cons.injEq,and_true] at e1 e2;subst e1;subst e2;simp only[sI7] at h;subst h
    cases hV with | str e1=>cases hV' with | str e2=>
    subst e1;subst e2;rw[run_equalIn_string _ _ _ _ _ hu,wud]
   .cases h
  .rename_i hd;rw[hd] at hx hy hu;obtain⟨u,rfl,hV⟩:=hx;obtain⟨u',rfl,hV'⟩:=hy;split at h
   .rename_i e1 e2;simp only[List.cons.injEq,and_true] at e1 e2;subst e1;subst e2;simp only[sI7] at h;subst h
    cases hV;cases hV';rw[wsw _ _ hu];rfl
   .cases h
  .rename_i fs hd;rw[hd] at hx hy hu;split at h
   .rename_i hcmp;obtain⟨hp,_,hb⟩:=hc hcmp;obtain⟨vs,rfl,s1,o1,V1⟩:=hx;obtain⟨us,rfl,s2,o2,V2⟩:=hy;have hf:P.fieldsOf t=fs:=by simp[Program.fieldsOf,hu]
    rw[run_equalIn_struct w (d+n) t vs us (by rw[hf];exact hu) hp,hf];exact wyl hte hn (λt ti x y a b r h1 h2 h3 h4=>wsx hte hn d n t ti x y a b r h1 h2 h3 h4) s1 o1 V1 s2 o2 V2 fs.toList r (hb fs hd) h
   .cases h
  .cases h
def wc0:List AV->Nat->List AV->Option (List AV)
 |cs,0,[]=>some cs
 |[],_,_::_=>none
 |[],_+1,[]=>none
 |_::cs,0,x::xs=>match wc0 cs 0 xs with
  |some r=>some (x::r)
  |none=>none
 |c::cs,k+1,xs=>match wc0 cs k xs with
  |some r=>some (c::r)
  |none=>none
theorem wg6:∀(cs:List AV) (off:Nat) (xs r:List AV),wc0 cs off xs=some r->
  r.length=cs.length/\off+xs.length<=cs.length/\∀j,r[j]?=if off<=j/\j<off+xs.length then xs[j - off]? else cs[j]?
 |cs,0,[],r,h=>by
  have:r=cs:=by cases cs<;>simp[wc0] at h<;>first | exact h | exact h.symm
  subst this;exact⟨rfl,by simp,λj=>by rw[if_neg];simp⟩
 |[],0,x::xs,r,h=>by simp[wc0] at h
 |[],k+1,xs,r,h=>by cases xs<;>simp[wc0] at h
 |c::cs,0,x::xs,r,h=>by
  simp only[wc0] at h;split at h
  .rename_i r' hr;simp only[sI7] at h;subst h;obtain⟨h1,h2,h3⟩:=wg6 cs 0 xs r' hr;refine⟨by simp[h1],by simp only[List.length_cons];omega,λj=>?_⟩
   cases j with
   |zero=>simp
   |succ j=>
    simp only[List.getElem?_cons_succ,h3 j,List.length_cons,zL7,true_and,Nat.zero_add,Nat.sub_zero,Nat.add_lt_add_iff_right]
    try split<;>simp
  .cases h
 |c::cs,k+1,xs,r,h=>by
  simp only[wc0] at h;split at h
  .rename_i r' hr;simp only[sI7] at h;subst h;obtain⟨h1,h2,h3⟩:=wg6 cs k xs r' hr;refine⟨by simp[h1],by simp only[List.length_cons];omega,λj=>?_⟩
   cases j with
   |zero=>simp
   |succ j=>
    simp only[List.getElem?_cons_succ,h3 j];have e:(k<=j/\j<k+xs.length)↔(k+1<=j+1/\j+1<k+1+xs.length):=by omega
    simp only[e];split
    .congr 1;omega
    .rfl
  .cases h
def wee:AV->Option (List AV)
 |.agg cs=>some cs
 |.any=>none
 |.tuple _=>none
 |u=>some [u]
theorem ws8{w:World}{M:Nat->Prop}{bs:Nat->Option Hd}{v:Value}{u:AV}{cs:List AV}(hv:V w M bs v u)(h:wee u=some cs):
  v.cells.size=cs.length/\(∀(j:Nat) (x:Value),v.cells[j]?=some x->x.oneCell'=true)/\∀(j:Nat) x y,v.cells[j]?=some x->cs[j]?=some y->V w M bs x y:=by
 have key:v.cells=#[v]->v.oneCell'=true->cs=[u]->v.cells.size=cs.length/\(∀(j:Nat) (x:Value),v.cells[j]?=some x->x.oneCell'=true)/\∀(j:Nat) x y,v.cells[j]?=some x->cs[j]?=some y->V w M bs x y:=λhc h1 e=>by
  subst e;refine⟨by rw[hc];rfl,λj x hx=>?_,λj x y hx hy=>?_⟩
  .rw[hc] at hx
   cases j with
   |zero=>simp at hx;subst hx;exact h1
   |succ j=>simp at hx
  .rw[hc] at hx
   cases j with
   |zero=>simp at hx hy;subst hx;subst hy;exact hv
   |succ j=>simp at hx
 cases hv with
 |agg hl h1 hV=>simp only[wee,sI7] at h;subst h;exact⟨hl,h1,hV⟩
 |any=>simp[wee] at h
 |tuple hl hV=>simp[wee] at h
 |_=>simp only[wee,sI7] at h;exact key rfl rfl h.symm
def wdd(w:World)(M:Nat->Prop)(bs:Nat->Option Hd)(vs:Array Value)(cs:List AV):Prop:=
 vs.size=cs.length/\(∀(j:Nat) (x:Value),vs[j]?=some x->x.oneCell'=true)/\∀(j:Nat) x y,vs[j]?=some x->cs[j]?=some y->V w M bs x y
theorem wxt(off:Nat):∀(l:List Value) (k:Nat) (cs:Array Value),off+k+l.length<=cs.size->
  ((l.zipIdx k).foldl (λ(cs:Array Value) (p:Value×Nat)=>cs.setIfInBounds (off+p.2) p.1) cs).size=cs.size/\
  ∀j,((l.zipIdx k).foldl (λ(cs:Array Value) (p:Value×Nat)=>cs.setIfInBounds (off+p.2) p.1) cs)[j]?=if off+k<=j/\j<off+k+l.length then l[j - (off+k)]? else cs[j]?
 |[],k,cs,_=>by simp;intro j h1 h2;omega
 |x::l,k,cs,h=>by
  simp only[List.length_cons] at h;simp only[List.zipIdx_cons,List.foldl_cons];obtain⟨h1,h2⟩:=wxt off l (k+1) (cs.setIfInBounds (off+k) x) (by simp;omega);refine⟨by rw[h1];simp,λj=>?_⟩;rw[h2 j];simp only[List.length_cons]
  by_cases hj:j=off+k
  .subst hj;rw[if_neg (by omega),if_pos (by omega)];simp[show off+k<cs.size by omega]
  .by_cases hlt:off+(k+1)<=j/\j<off+(k+1)+l.length
   .rw[if_pos hlt,if_pos (by omega),show j - (off+k)=(j - (off+(k+1)))+1 by omega,List.getElem?_cons_succ]
   .rw[if_neg hlt,if_neg (by omega),Array.getElem?_setIfInBounds_ne (by omega)]
theorem w0j{w:World}{M:Nat->Prop}{bs:Nat->Option Hd}{vs:Array Value}{cs xs r:List AV}{off:Nat}{new:Array Value}(hc:wdd w M bs vs cs)(hn:wdd w M bs new xs)(h:wc0 cs off xs=some r):
  wdd w M bs (new.zipIdx.foldl (λcs p=>cs.setIfInBounds (off+p.2) p.1) vs) r/\off+new.size<=vs.size:=by
 obtain⟨l1,l2,l3⟩:=wg6 cs off xs r h;have hb:off+new.size<=vs.size:=by rw[hc.1,hn.1];exact l2
 have e:new.zipIdx.foldl (λcs p=>cs.setIfInBounds (off+p.2) p.1) vs=((new.toList.zipIdx 0).foldl (λ(cs:Array Value) (p:Value×Nat)=>cs.setIfInBounds (off+p.2) p.1) vs):=by
  rw[← Array.foldl_toList];simp
 obtain⟨f1,f2⟩:=wxt off new.toList 0 vs (by simpa using hb);rw[e];simp only[Nat.add_zero,Array.length_toList,Array.getElem?_toList] at f2;refine⟨⟨by rw[f1,hc.1,l1],λj x hx=>?_,λj x y hx hy=>?_⟩,hb⟩
 .rw[f2 j] at hx;split at hx
  .exact hn.2.1 _ _ hx
  .exact hc.2.1 _ _ hx
 .rw[f2 j] at hx;rw[l3 j] at hy;rw[hn.1] at hx;split at hx
  .rename_i hh;rw[if_pos hh] at hy;exact hn.2.2 _ _ _ hx hy
  .rename_i hh;rw[if_neg hh] at hy;exact hc.2.2 _ _ _ hx hy
def wcu(T:Nat->Option AV)(place:Nat->Option (Nat×Nat)):List AV->List (Nat×Operand)->Option (List AV)
 |cs,[]=>some cs
 |cs,(i,x)::rest=>match place i with
  |some (off,sz)=>match evO T x with
   |some u=>match wee u with
    |some new=>match Nat.beq new.length sz with
     |true=>match wc0 cs off new with
      |some cs'=>wcu T place cs' rest
      |none=>none
     |false=>none
    |none=>none
   |none=>none
  |none=>none
theorem wlp{w:World}{M:Nat->Prop}{bs:Nat->Option Hd}{N:Nat}{T:Nat->Option AV}{a:Act}(hF:FRep w M bs N T a){place:Nat->Option (Nat×Nat)}:
  ∀(parts:List (Nat×Operand)) (vs:Array Value) (cs r:List AV),wdd w M bs vs cs->wcu T place cs parts=some r->
   ∃vs',Instr.fill place vs (parts.map λ(i,x)=>(i,a.eval x))=some vs'/\wdd w M bs vs' r
 |[],vs,cs,r,hc,h=>by simp only[wcu,sI7] at h;subst h;exact⟨vs,rfl,hc⟩
 |(i,x)::rest,vs,cs,r,hc,h=>by
  simp only[wcu] at h;split at h
  .rename_i off sz hp;split at h
   .rename_i u hu;split at h
    .rename_i new hnew;split at h
     .rename_i hsz;split at h
      .rename_i cs' hs;have hsz:=Nat.eq_of_beq_eq_true hsz;have hn:wdd w M bs (a.eval x).cells new:=ws8 (wbe hF hu) hnew;obtain⟨hc',hb⟩:=w0j hc hn hs;obtain⟨vs',hf,hv⟩:=wlp hF rest _ cs' r hc' h;refine⟨vs',?_,hv⟩;simp only[List.map_cons,Instr.fill,hp];rw[if_neg]
       .exact hf
       .simp only[hn.1,hsz,ne_eq,not_true_eq_false,decide_false,Bool.false_or,decide_eq_true_eq];have:=hn.1;omega
      .cases h
     .cases h
    .cases h
   .cases h
  .cases h
def avcs:List Value->Option (List AV)
 |[]=>some []
 |v::l=>match avc v with
  |some u=>match avcs l with
   |some r=>some (u::r)
   |none=>none
  |none=>none
theorem wgx{w:World}{M:Nat->Prop}{bs:Nat->Option Hd}:∀(l:List Value) (cs:List AV),avcs l=some cs->wdd w M bs l.toArray cs
 |[],cs,h=>by simp only[avcs,sI7] at h;subst h;exact⟨rfl,λj x hx=>by simp at hx,λj x y hx=>by simp at hx⟩
 |v::l,cs,h=>by
  simp only[avcs] at h;split at h
  .rename_i u hu;split at h
   .rename_i r hr;simp only[sI7] at h;subst h;obtain⟨h1,h2,h3⟩:=wgx (w:=w) (M:=M) (bs:=bs) l r hr;refine⟨by simpa using h1,λj x hx=>?_,λj x y hx hy=>?_⟩
    .cases j with
     |zero=>simp at hx;subst hx;exact avc_one hu
     |succ j=>exact h2 j x (by simpa using hx)
    .cases j with
     |zero=>simp at hx hy;subst hx;subst hy;exact wtd hu
     |succ j=>exact h3 j x y (by simpa using hx) (by simpa using hy)
   .cases h
  .cases h
def wip(te:TE)(t:TypeId):Option (List AV):=match lk te t with
 |some ti=>avcs ti.zero.cells.toList
 |none=>none
def wi4(te:TE):List Field->Option (List (Nat×Nat))
 |[]=>some []
 |f::fs=>match lk te f.type with
  |some ti=>match wi4 te fs with
   |some r=>some ((f.offset,ti.sz)::r)
   |none=>none
  |none=>none
theorem wu5{P:Program}{te:TE}(hte:TE.ok P te)(w:World):∀(fs:List Field) (r:List (Nat×Nat)),wi4 te fs=some r->
  (fs.mapM λf=>do pure (f.offset, ← sizeOf f.type):Sem (List (Nat×Nat))).run P w= .ok r w
 |[],r,h=>by simp only[wi4,sI7] at h;subst h;rfl
 |f::fs,r,h=>by
  simp only[wi4] at h;split at h
  .rename_i ti hti;split at h
   .rename_i r' hr;simp only[sI7] at h;subst h;have:=wu5 hte w fs r' hr;simp only[bind_pure_comp] at this;simp[List.mapM_cons,wdk hte hti,this]
   .cases h
  .cases h
def wfp(te:TE)(T:Nat->Option AV)(t:TypeId)(parts:List (Nat×Operand)):Option AV:=
 match lk te t with
 |some ti=>match avcs ti.zero.cells.toList with
  |some z=>match ti.desc with
   |.struct fs=>match wi4 te fs.toList with
    |some pl=>match wcu T (λi=>pl[i]?) z parts with
     |some cs=>some (.agg cs)
     |none=>none
    |none=>none
   |.array _ e=>match lk te e with
    |some te'=>match wcu T (λi=>some (i * te'.sz,te'.sz)) z parts with
     |some cs=>some (.agg cs)
     |none=>none
    |none=>none
   |_=>none
  |none=>none
 |none=>none
theorem w8o{P:Program}{te:TE}(hte:TE.ok P te){w:World}{M:Nat->Prop}{bs:Nat->Option Hd}{N:Nat}{T:Nat->Option AV}{a:Act}(hF:FRep w M bs N T a){t:TypeId}{parts:Array (Nat×Operand)}{u:AV}
  (h:wfp te T t parts.toList=some u):∃v,(Instr.build t (parts.map λ(i,x)=>(i,a.eval x))).run P w= .ok v w/\V w M bs v u:=by
 unfold wfp at h;split at h
 .rename_i ti hti;have hz:=wgh hte (w:=w) hti;have hu:=wbt hte (w:=w) hti;split at h
  .rename_i z hzz;have hc:wdd w M bs ti.zero.cells z:=by simpa using wgx (w:=w) (M:=M) (bs:=bs) _ _ hzz
   split at h
   .rename_i fs hd;rw[hd] at hu;split at h
    .rename_i pl hpl;split at h
     .rename_i cs hcs;simp only[sI7] at h;subst h;obtain⟨vs,hv,hV⟩:=wlp hF _ _ _ _ hc hcs;refine⟨.agg vs,?_,.agg hV.1 hV.2.1 hV.2.2⟩;have hp:(fs.mapM λf=>do pure (f.offset, ← sizeOf f.type):Sem (Array (Nat×Nat))).run P w= .ok pl.toArray w:=by
       have:=wu5 hte w _ _ hpl;rw[Array.mapM_eq_mapM_toList];simp only[Sem.run_map,this,Result.andThen_ok]
      simp only[bind_pure_comp] at hp;simp[Instr.build,hz,hu,hp,hv]
     .cases h
    .cases h
   .rename_i n e hd;rw[hd] at hu;split at h
    .rename_i te' hte';split at h
     .rename_i cs hcs;simp only[sI7] at h;subst h;obtain⟨vs,hv,hV⟩:=wlp hF _ _ _ _ hc hcs;refine⟨.agg vs,?_,.agg hV.1 hV.2.1 hV.2.2⟩;simp[Instr.build,hz,hu,wdk hte (w:=w) hte',hv]
     .cases h
    .cases h
   .cases h
  .cases h
 .cases h
def isC:Operand->Bool
 |.const _=>true
 |_=>false
def wsm:AV->AV->Operand->Bool
 |.int _ _,_,_=>true
 |.str _,_,_=>true
 |.bool _,_,_=>true
 |.ptr _ _,_,_=>true
 |.iface _ _,_,_=>true
 |.nilIface,.nilIface,y=>isC y
 |.nilIface,.iface _ _,_=>true
 |.view _ _ _,_,_=>true
 |.own _ _,_,_=>true
 |.nil,_,_=>true
 |.map _,_,_=>true
 |.nilmap,_,_=>true
 |.nilptr,_,_=>true
 |_,_,_=>false
def opA(te:TE)(op:BinOp)(t:TypeId)(y:Operand)(a b:AV):Option (AV×Prop):=
 match lk te t with
 |some ti=>match a,b with
  |.agg xs,.agg ys=>match wa8 ti.desc && ti.cmp with
   |true=>match op,eqA te 8 t xs ys with
    |.eql,some r=>some (.bool r,True)
    |.neq,some r=>some (.bool (!r),True)
    |_,_=>none
   |false=>none
  |a,b=>match wsm a b y with
   |true=>binA ti.desc op a b
   |false=>none
 |none=>none
theorem w7m{P:Program}{w:World}{M:Nat->Prop}{bs:Nat->Option Hd}{op:BinOp}{t:TypeId}{x y:Operand}{v u:Value}{a b:AV}(hv:V w M bs v a)(hu:V w M bs u b)(h:wsm a b y=true):
  (eqGuard op t x y v u).run P w= .ok () w:=by
 unfold wsm at h;split at h
 .cases hv;simp[go_sem]
 .cases hv;simp[go_sem]
 .cases hv;simp[go_sem]
 .cases hv;simp[go_sem]
 .cases hv;simp[go_sem]
 .cases hv;cases hu
  cases y with
  |const c=>simp[go_sem]
  |_=>simp[isC] at h
 .cases hv;cases hu;simp[go_sem]
 .cases hv;simp[go_sem]
 .cases hv<;>simp[go_sem]
 .cases hv;simp[go_sem]
 .cases hv;simp[go_sem]
 .cases hv;simp[go_sem]
 .cases hv;simp[go_sem]
 .cases h
theorem w15{P:Program}{te:TE}(hte:TE.ok P te)(hn:∀t ti,lk te t=some ti->wa8 ti.desc=false->ti.sz=1){w:World}{M:Nat->Prop}{bs:Nat->Option Hd}{op:BinOp}{t:TypeId}{x y:Operand}{v u:Value}{a b r:AV}{vc:Prop}
  (hv:V w M bs v a) (hu:V w M bs u b) (h:opA te op t y a b=some (r,vc)) (hvc:vc):
  ∃z,(do eqGuard op t x y v u;binOp op t v u:Sem Value).run P w= .ok z w/\V w M bs z r:=by
 unfold opA at h;split at h
 .rename_i ti hti;split at h
  .rename_i xs ys;split at h
   .rename_i hc;simp only[bA7] at hc;obtain⟨hagg,hc⟩:=hc;obtain⟨hund,_,hcmp⟩:=hte t ti hti;obtain⟨hp,hg,_⟩:=hcmp hc
    cases hv with
    |agg l1 o1 V1=>
     cases hu with
     |agg l2 o2 V2=>
      rename_i vs us;have key:∀r',eqA te 8 t xs ys=some r'->(Op.equalIn 10000 t (.agg vs) (.agg us)).run P w= .ok r' w:=λr' hr=>
       wsx hte hn 8 9992 t ti _ _ _ _ r' hti (by rw[hagg];exact⟨vs,rfl,l1,o1,V1⟩) (by rw[hagg];exact⟨us,rfl,l2,o2,V2⟩) hr
      split at h
      .rename_i r' hr;simp only[sI7,pI7] at h;obtain⟨rfl,rfl⟩:=h;exact⟨.bool r',by simp only[Sem.run_bind,run_eqGuard_agg w _ _ _ _ _ _ hg,Result.andThen_ok,run_eql_struct,key _ hr],.bool⟩
      .rename_i r' hr;simp only[sI7,pI7] at h;obtain⟨rfl,rfl⟩:=h;exact⟨.bool (!r'),by simp only[Sem.run_bind,run_eqGuard_agg w _ _ _ _ _ _ hg,Result.andThen_ok,run_neq_struct,key _ hr],.bool⟩
      .cases h
   .cases h
  .split at h
   .rename_i hg;obtain⟨z,hz,hV⟩:=w8u hte hti hv hu h hvc;exact⟨z,by simp only[Sem.run_bind,w7m hv hu hg,Result.andThen_ok,hz],hV⟩
   .cases h
 .cases h
def pickA(cb:Bool):AV->AV->Option AV
 |.bool x,.bool y=>some (.bool (cond cb x y))
 |a,b=>match cb with
  |true=>some a
  |false=>some b
theorem w1x{w:World}{M:Nat->Prop}{bs:Nat->Option Hd}{cb:Bool}{x y:Value}{a b u:AV}(hx:V w M bs x a)(hy:V w M bs y b)(h:pickA cb a b=some u):V w M bs (if cb then x else y) u:=by
 unfold pickA at h;split at h
 .simp only[sI7] at h;subst h
  cases hx;cases hy
  cases cb<;>exact .bool
 .cases cb<;>simp only[sI7] at h<;>subst h
  .exact hy
  .exact hx
def evL(T:Nat->Option AV):List Operand->Option (List AV)
 |[]=>some []
 |x::l=>match evO T x with
  |some u=>match evL T l with
   |some r=>some (u::r)
   |none=>none
  |none=>none
theorem wlt{w:World}{M:Nat->Prop}{bs:Nat->Option Hd}{N:Nat}{T:Nat->Option AV}{a:Act}(hF:FRep w M bs N T a):∀(l:List Operand) (r:List AV),evL T l=some r->
  (l.map a.eval).length=r.length/\∀(j:Nat) v u,(l.map a.eval)[j]?=some v->r[j]?=some u->V w M bs v u
 |[],r,h=>by simp only[evL,sI7] at h;subst h;exact⟨rfl,λj v u h=>by simp at h⟩
 |x::l,r,h=>by
  simp only[evL] at h;split at h
  .rename_i u hu;split at h
   .rename_i r' hr;simp only[sI7] at h;subst h;obtain⟨h1,h2⟩:=wlt hF l r' hr;refine⟨by simpa using h1,λj v u hv hu'=>?_⟩
    cases j with
    |zero=>simp at hv hu';subst hv;subst hu';exact wbe hF hu
    |succ j=>exact h2 j v u (by simpa using hv) (by simpa using hu')
   .cases h
  .cases h
def wdw(te:TE)(O:Nat->Option AObj)(t:TypeId)(u:AV):Option (AV×Prop):=
 match lk te t with
 |some ti=>match wff O u with
  |some (g,vc)=>match wa8 ti.desc with
   |true=>match wcq ti.sz g with
    |some cs=>some (.agg cs,vc)
    |none=>none
   |false=>match g with
    |x::_=>some (x,vc)
    |[]=>none
  |none=>none
 |none=>none
theorem wwu{C:Ctx}{te:TE}(hte:TE.ok C.P te)(hn:∀t ti,lk te t=some ti->wa8 ti.desc=false->ti.sz=1){E:Ent}{O:Nat->Option AObj}{bs:Nat->Option Hd}{w:World}(hW:WRep C E O bs w){t:TypeId}{x:Value}{a u:AV}{vc:Prop}
  (hx:V w (MB E O bs) bs x a) (h:wdw te O t a=some (u,vc)) (hvc:vc):∃v,(Instr.loadAt t x).run C.P w= .ok v w/\V w (MB E O bs) bs v u:=by
 unfold wdw at h;split at h
 .rename_i ti hti;split at h
  .rename_i g vc' hg;have hP:vc'->PCells w (MB E O bs) bs x g:=λhh=>w1s hW hx hg hh;split at h
   .rename_i hd;split at h
    .rename_i cs hcs;simp only[sI7,pI7] at h;obtain⟨rfl,rfl⟩:=h;obtain⟨ad,cv,rfl,hc,h1,hV⟩:=hP hvc;obtain⟨hl,rfl⟩:=wqp hcs;have:=wu6 hte hti (w:=w) (a:=ad) (cv:=cv) (λj hj=>hc j (by omega)) (hn _ _ hti);rw[hd] at this;refine⟨_,by simpa[Instr.loadAt,Instr.sureAddr] using this,.agg ?_ (λj v hv=>?_) (λj v u hv hu=>?_)⟩
     .simp;omega
     .simp only[List.getElem?_toArray,List.getElem?_map] at hv
      rcases Nat.lt_or_ge j ti.sz with hj | hj
      .simp[hj] at hv;subst hv;exact h1 j (by omega)
      .simp[show ¬ j<ti.sz by omega] at hv
     .simp only[List.getElem?_toArray,List.getElem?_map] at hv;rw[List.getElem?_take] at hu;split at hu
      .rename_i hj;simp[hj] at hv;subst hv;exact hV j u hu
      .cases hu
    .cases h
   .rename_i hd;split at h
    .rename_i y l;simp only[sI7,pI7] at h;obtain⟨rfl,rfl⟩:=h;obtain⟨ad,cv,rfl,hc,h1,hV⟩:=hP hvc;have:=wu6 hte hti (w:=w) (a:=ad) (cv:=cv) (λj hj=>hc j (by rw[hn _ _ hti hd] at hj;simp;omega)) (hn _ _ hti);rw[hd] at this;exact⟨_,by simpa[Instr.loadAt,Instr.sureAddr] using this,hV 0 _ rfl⟩
    .cases h
  .cases h
 .cases h
def convA(te:TE)(src dst:TypeId)(u:AV):Option (AV×Prop):=
 match lk te src,lk te dst with
 |some _,some td=>match u with
  |.int k n=>match td.desc with
   |.int k'=>match k,k' with
    |.i64,.u64=>some (.int .u64 (IntKind.u64.wrap n),True)
    |.u64,.u32=>some (.int .u32 (IntKind.u32.wrap n),True)
    |_,k'=>some (.int k' n,inR k' n)
   |_=>none
  |.str s=>match td.desc with
   |.string=>some (.str s,True)
   |_=>none
  |_=>none
 |_,_=>none
theorem w73{P:Program}{te:TE}(hte:TE.ok P te){w:World}{M:Nat->Prop}{bs:Nat->Option Hd}{src dst:TypeId}{x:Value}{a u:AV}{vc:Prop}(hx:V w M bs x a)(h:convA te src dst a=some (u,vc))(hvc:vc):
  ∃v,(convert src dst x).run P w= .ok v w/\V w M bs v u:=by
 unfold convA at h;split at h
 .rename_i ts td hts htd;have h1:=wbt hte (w:=w) hts;have h2:=wbt hte (w:=w) htd;split at h
  .rename_i k n
   cases hx;split at h
   .rename_i k' hd;rw[hd] at h2;have key:(convert src dst (.int k n)).run P w= .ok (.int k' (k'.wrap n)) w:=by simp[convert,h1,h2,Conv.intToInt]
    split at h<;>simp only[sI7,pI7] at h<;>obtain⟨rfl,rfl⟩:=h
    .exact⟨_,key,.int⟩
    .exact⟨_,key,.int⟩
    .rw[wj5 hvc] at key;exact⟨_,key,.int⟩
   .cases h
  .rename_i s;split at h
   .rename_i hd;rw[hd] at h2;simp only[sI7,pI7] at h;obtain⟨rfl,rfl⟩:=h;have hx':=hx
    cases hx with
    |str hs=>
     rename_i b;refine⟨.string b,?_,hx'⟩;simp[convert,h1,h2]
   .cases h
  .cases h
 .cases h
def lenA(te:TE)(t:TypeId)(u:AV):Option AV:=
 match lk te t with
 |some ti=>match ti.desc,u with
  |.string,.str s=>some (.int .i64 s.length)
  |.slice _,.view _ n _=>some (.int .i64 n)
  |.slice _,.own _ n=>some (.int .i64 n)
  |.slice _,.sub _ _ _ n=>some (.int .i64 n)
  |.slice _,.nil=>some (.int .i64 0)
  |.slice _,.empty=>some (.int .i64 0)
  |.array n _,_=>some (.int .i64 n)
  |_,_=>none
 |none=>none
theorem w6f{P:Program}{te:TE}(hte:TE.ok P te){w:World}{M:Nat->Prop}{bs:Nat->Option Hd}{t ty:TypeId}{x:Value}{a u:AV}(hx:V w M bs x a)(h:lenA te t a=some u):
  ∃v,(Builtin.len_ #[t] ty #[x]).run P w= .ok v w/\V w M bs v u:=by
 unfold lenA at h;split at h
 .rename_i ti hti;have hu:=wbt hte (w:=w) hti;split at h<;>simp only[sI7,reduceCtorEq] at h<;>subst h<;>rename_i hd<;>rw[hd] at hu
  .cases hx with
   |str hs=>
    rename_i l b;refine⟨.int .i64 b.size,by simp[Builtin.len_,hu,goInt],?_⟩;rw[show (b.size:Int)=(b.data.toList.length:Nat) by simp,hs];exact .int
  .cases hx;exact⟨_,by simp[Builtin.len_,hu];rfl,.int⟩
  .cases hx with
   |own=>exact⟨_,by simp[Builtin.len_,hu];rfl,.int⟩
   |ownnil hb hn=>subst hn;exact⟨_,by simp[Builtin.len_,hu];rfl,.int⟩
  .cases hx with
   |sub=>exact⟨_,by simp[Builtin.len_,hu];rfl,.int⟩
   |subnil hb hn ho=>subst hn;exact⟨_,by simp[Builtin.len_,hu];rfl,.int⟩
  .cases hx;exact⟨_,by simp[Builtin.len_,hu];rfl,.int⟩
  .cases hx;exact⟨_,by simp[Builtin.len_,hu];rfl,.int⟩
  .exact⟨_,by simp[Builtin.len_,hu];rfl,.int⟩
 .cases h
def partA(te:TE)(t:TypeId)(k:Nat):AV->Option AV
 |.agg cs=>match wlr te t k with
  |some f=>match lk te f.type with
   |some ti=>match wcq ti.sz (wce f.offset cs) with
    |some a=>match wa8 ti.desc with
     |true=>some (.agg a)
     |false=>match a with
      |[u]=>some u
      |_=>none
    |none=>none
   |none=>none
  |none=>none
 |_=>none
theorem w1z{P:Program}{te:TE}(hte:TE.ok P te)(hn:∀t ti,lk te t=some ti->wa8 ti.desc=false->ti.sz=1){w:World}{M:Nat->Prop}{bs:Nat->Option Hd}{t:TypeId}{k:Nat}{x:Value}{a u:AV}
  (hx:V w M bs x a) (h:partA te t k a=some u):∃v,(Instr.field t x k).run P w= .ok v w/\V w M bs v u:=by
 unfold partA at h;split at h
 .rename_i cs
  cases hx with
  |agg l1 o1 V1=>
   rename_i vs;split at h
   .rename_i f hf;unfold wlr at hf;split at hf
    .rename_i ts hts;have hu:=wbt hte (w:=w) hts;split at hf
     .rename_i fs hd;rw[hd] at hu;have hf':fs[k]?=some f:=by rw[← hf];simp
      split at h
      .rename_i ti hti;split at h
       .rename_i b hb;obtain⟨v,hv,hcv⟩:=wg9 hte hti (hn _ _ hti) l1 o1 V1 hb;have key:(Instr.field t (.agg vs) k).run P w= .ok v w:=by simp[Instr.field,hu,hf',asAgg,hv]
        refine⟨v,key,?_⟩;split at h
        .rename_i hag;simp only[sI7] at h;subst h;rw[hag] at hcv;obtain⟨vs',rfl,a1,a2,a3⟩:=hcv;exact .agg a1 a2 a3
        .rename_i hag;rw[hag] at hcv;obtain⟨u',rfl,hV⟩:=hcv;simp only[sI7] at h;subst h;exact hV
       .cases h
      .cases h
     .cases hf
    .cases hf
   .cases h
 .cases h
def wsi(te:TE)(t:TypeId)(u:AV)(i:AV):Option (AV×Prop):=
 match lk te t with
 |some ti=>match ti.desc,u,i with
  |.string,.str s,.int _ k=>some (.int .u8 (s.getD k.toNat 0).toNat,0<=k/\k<s.length)
  |_,_,_=>none
 |none=>none
theorem w6w{P:Program}{te:TE}(hte:TE.ok P te){w:World}{M:Nat->Prop}{bs:Nat->Option Hd}{t:TypeId}{x y:Value}{a b u:AV}{vc:Prop}(hx:V w M bs x a)(hy:V w M bs y b)
  (h:wsi te t a b=some (u,vc)) (hvc:vc):∃v,(Instr.index t x y).run P w= .ok v w/\V w M bs v u:=by
 unfold wsi at h;split at h
 .rename_i ti hti;have hu:=wbt hte (w:=w) hti;split at h
  .rename_i s kd k hd;rw[hd] at hu;simp only[sI7,pI7] at h;obtain⟨rfl,rfl⟩:=h
   cases hx with
   |str hs=>
    cases hy;rename_i b;obtain⟨h0,h1⟩:=hvc;have hlt:k.toNat<b.size:=by
     have:b.size=s.length:=by rw[← hs];simp
     omega
    refine⟨.int .u8 (b[k.toNat]'hlt).toNat,?_,?_⟩
    .have e:b[k.toNat]?=some (b[k.toNat]'hlt):=by simp[hlt]
     simp[Instr.index,asIntOf,hu,h0,e]
    .have e:s.getD k.toNat 0=b[k.toNat]'hlt:=by
      rw[← hs];simp only[List.getD_eq_getElem?_getD,Array.getElem?_toList];rw[Array.getElem?_eq_getElem (show k.toNat<b.data.size from hlt)];rfl
     rw[e];exact .int
  .cases h
 .cases h
def wb7(te:TE)(T:Nat->Option AV)(O:Nat->Option AObj):Op->Option (AV×Prop)
 |.move x=>match evO T x with
  |some u=>some (u,True)
  |none=>none
 |.assign x=>match evO T x with
  |some u=>some (u,True)
  |none=>none
 |.pick c a b=>match evO T c with
  |some (.bool cb)=>match evO T a,evO T b with
   |some x,some y=>match pickA cb x y with
    |some u=>some (u,True)
    |none=>none
   |_,_=>none
  |_=>none
 |.load t x=>match evO T x with
  |some u=>wdw te O t u
  |none=>none
 |.nilCheck x=>match evO T x with
  |some (.ptr r o)=>some (.ptr r o,True)
  |some (.eptr r s i o)=>some (.eptr r s i o,True)
  |some (.vptr g)=>some (.vptr g,True)
  |_=>none
 |.binOp op t x y _=>match evO T x,evO T y with
  |some a,some b=>opA te op t y a b
  |_,_=>none
 |.unOp .not _ x=>match evO T x with
  |some (.bool b)=>some (.bool (!b),True)
  |_=>none
 |.unOp .neg _ x=>match evO T x with
  |some (.int k n)=>some (.int k (0 - n),inR k (0 - n))
  |_=>none
 |.convert src dst x=>match evO T x with
  |some u=>convA te src dst u
  |none=>none
 |.fieldAddr t x f=>match evO T x with
  |some u=>match wsv te t u f with
   |some r=>some (r,True)
   |none=>none
  |none=>none
 |.field t x f=>match evO T x with
  |some u=>match partA te t f u with
   |some r=>some (r,True)
   |none=>none
  |none=>none
 |.indexAddr t x i=>match evO T x,evO T i with
  |some u,some (.int _ k)=>wsj te t u k
  |_,_=>none
 |.index t x i=>match evO T x,evO T i with
  |some u,some k=>wsi te t u k
  |_,_=>none
 |.slice t x lo hi mx=>match evO T x,evL T lo.toList,evL T hi.toList,evL T mx.toList with
  |some u,some l,some h,some m=>wq1 te t u l.head? h.head? m.head?
  |_,_,_,_=>none
 |.build t parts=>match wfp te T t parts.toList with
  |some u=>some (u,True)
  |none=>none
 |.extract x i=>match evO T x with
  |some (.tuple vs)=>match vs[i]? with
   |some u=>some (u,True)
   |none=>none
  |_=>none
 |.makeFunc (.func f) first cap=>match first.toList with
  |[]=>match evL T cap.toList with
   |some l=>some (.func f l,True)
   |none=>none
  |_=>none
 |.makeInterface t x=>match evO T x,lk te t with
  |some u,some ti=>match ti.desc with
   |.interface _=>none
   |_=>some (.iface t u,True)
  |_,_=>none
 |.call { callee:=.builtin .len,args,argTypes }=>match argTypes.toList,args.toList with
  |[t],[x]=>match evO T x with
   |some u=>match lenA te t u with
    |some r=>some (r,True)
    |none=>none
   |none=>none
  |_,_=>none
 |.call { callee:=.builtin .min,args,argTypes:=_ }=>match args.toList with
  |[x,y]=>match evO T x,evO T y with
   |some (.int k a),some (.int _ b)=>some (.int k (min a b),True)
   |_,_=>none
  |_=>none
 |.call { callee:=.builtin .max,args,argTypes:=_ }=>match args.toList with
  |[x,y]=>match evO T x,evO T y with
   |some (.int k a),some (.int _ b)=>some (.int k (max a b),True)
   |_,_=>none
  |_=>none
 |_=>none
theorem wx5{C:Ctx}{te:TE}(hte:TE.ok C.P te)(hn:∀t ti,lk te t=some ti->wa8 ti.desc=false->ti.sz=1){E:Ent}{O:Nat->Option AObj}{bs:Nat->Option Hd}{w:World}(hW:WRep C E O bs w)
  {N:Nat} {T:Nat->Option AV} {a:Act} (hF:FRep w (MB E O bs) bs N T a) {o:Oper} {u:AV} {vc:Prop} (h:wb7 te T O o.op=some (u,vc)) (hvc:vc):
  ∃v,(execOp a.eval o).run C.P w= .ok (.value v) w/\V w (MB E O bs) bs v u:=by
 have ev:=λ{x:Operand} {u:AV} (h:evO T x=some u)=>wbe hF h;have wrap:∀(s:Sem Value) v,s.run C.P w= .ok v w->(do pure (.value (← s)):Sem Next).run C.P w= .ok (.value v) w:=by
  intro s v hs;simp[hs]
 obtain⟨dst,op,ty,pos,after,guard⟩:=o;simp only at h;unfold wb7 at h;split at h
 .split at h<;>simp only[sI7,pI7,reduceCtorEq] at h;obtain⟨rfl,rfl⟩:=h;rename_i hu;exact⟨_,rfl,ev hu⟩
 .split at h<;>simp only[sI7,pI7,reduceCtorEq] at h;obtain⟨rfl,rfl⟩:=h;rename_i hu;exact⟨_,rfl,ev hu⟩
 .rename_i c x y;split at h
  .rename_i cb hc;split at h
   .rename_i ua ub ha hb;split at h<;>simp only[sI7,pI7,reduceCtorEq] at h;obtain⟨rfl,rfl⟩:=h;rename_i hp;have hV:=w1x (ev ha) (ev hb) hp;refine⟨_,?_,hV⟩;have hcb:=ev hc;generalize hz:a.eval c=z at hcb
    cases hcb;simp[execOp,hz,asBool]
   .cases h
  .cases h
 .split at h
  .rename_i hu;obtain⟨v,h1,h2⟩:=wwu hte hn hW (ev hu) h hvc;exact⟨v,wrap _ _ h1,h2⟩
  .cases h
 .rename_i x;split at h<;>simp only[sI7,pI7,reduceCtorEq] at h
  all_goals
   obtain⟨rfl,rfl⟩:=h;rename_i hu;have hV:=ev hu;refine⟨a.eval x,?_,hV⟩;generalize hz:a.eval x=z at hV
   cases hV;simp[execOp,hz]
 .split at h
  .rename_i ha hb;obtain⟨v,h1,h2⟩:=w15 hte hn (ev ha) (ev hb) h hvc;exact⟨v,wrap _ _ h1,h2⟩
  .cases h
 .rename_i x;split at h<;>simp only[sI7,pI7,reduceCtorEq] at h;obtain⟨rfl,rfl⟩:=h;rename_i hu;have hV:=ev hu;generalize hz:a.eval x=z at hV
  cases hV;exact⟨.bool _,by simp[execOp,hz,Op.unary],.bool⟩
 .rename_i x;split at h<;>simp only[sI7,pI7,reduceCtorEq] at h;obtain⟨rfl,rfl⟩:=h;rename_i hu;have hV:=ev hu;generalize hz:a.eval x=z at hV
  cases hV;refine⟨.int _ _,?_,.int⟩;have e:=wj5 hvc;simp[execOp,hz,Op.unary,Op.intArith] at e ⊢;exact e
 .split at h
  .rename_i hu;obtain⟨v,h1,h2⟩:=w73 hte (ev hu) h hvc;exact⟨v,wrap _ _ h1,h2⟩
  .cases h
 .split at h
  .rename_i hu;split at h<;>simp only[sI7,pI7,reduceCtorEq] at h;obtain⟨rfl,rfl⟩:=h;rename_i hf;obtain⟨v,h1,h2⟩:=w7l hte (ev hu) hf;exact⟨v,wrap _ _ h1,h2⟩
  .cases h
 .split at h
  .rename_i hu;split at h<;>simp only[sI7,pI7,reduceCtorEq] at h;obtain⟨rfl,rfl⟩:=h;rename_i hf;obtain⟨v,h1,h2⟩:=w1z hte hn (ev hu) hf;exact⟨v,wrap _ _ h1,h2⟩
  .cases h
 .rename_i t x i;split at h
  .rename_i hu hk;have hV:=ev hk;generalize hz:a.eval i=z at hV
   cases hV;obtain⟨v,h1,h2⟩:=w61 hte (ev hu) h hvc;exact⟨v,wrap _ _ (by rw[hz];exact h1),h2⟩
  .cases h
 .split at h
  .rename_i hu hk;obtain⟨v,h1,h2⟩:=w6w hte (ev hu) (ev hk) h hvc;exact⟨v,wrap _ _ h1,h2⟩
  .cases h
 .rename_i t x lo hi mx;split at h
  .rename_i l h' m hu hl hh hm;have one:∀(o:Option Operand) (r:List AV),evL T o.toList=some r->(∀v,o.map a.eval=some v->∃u,r.head?=some u/\V w (MB E O bs) bs v u)/\(o.map a.eval=none->r.head?=none):=by
    intro o r hr
    cases o with
    |none=>
     simp only[Option.toList,evL,sI7] at hr;subst hr;exact⟨λv hv=>by simp at hv,λ_=>rfl⟩
    |some y=>
     simp only[Option.toList,evL] at hr;split at hr
     .rename_i u' hu';simp only[sI7] at hr;subst hr;exact⟨λv hv=>by simp at hv;subst hv;exact⟨u',rfl,ev hu'⟩,λhv=>by simp at hv⟩
     .cases hr
   obtain⟨l1,l2⟩:=one lo l hl;obtain⟨h1,h2⟩:=one hi h' hh;obtain⟨m1,m2⟩:=one mx m hm;obtain⟨v,k1,k2⟩:=w0t hte (ev hu) l1 l2 h1 h2 m1 m2 h hvc;exact⟨v,wrap _ _ k1,k2⟩
  .cases h
 .split at h<;>simp only[sI7,pI7,reduceCtorEq] at h;obtain⟨rfl,rfl⟩:=h;rename_i hb;obtain⟨v,h1,h2⟩:=w8o hte hF hb;exact⟨v,wrap _ _ h1,h2⟩
 .rename_i x i;split at h
  .rename_i vs hu;split at h<;>simp only[sI7,pI7,reduceCtorEq] at h;obtain⟨rfl,rfl⟩:=h;rename_i hi;have hV:=ev hu;generalize hz:a.eval x=z at hV
   cases hV with
   |tuple hl hv=>
    rename_i cs;have hlt:i<cs.size:=by rw[hl];exact(List.getElem?_eq_some_iff.1 hi).1
    refine⟨cs[i],?_,hv i _ _ (by simp[hlt]) hi⟩;simp[execOp,hz,Instr.extract,hlt]
  .cases h
 .rename_i f first cap
  split at h
  .rename_i hfirst;split at h<;>simp only[sI7,pI7,reduceCtorEq] at h;obtain⟨rfl,rfl⟩:=h;rename_i hl;obtain⟨h1,h2⟩:=wlt hF _ _ hl;refine⟨.func (.func f) #[] (cap.map a.eval),?_,.func (by simpa using h1) (λj v u hv hu=>h2 j v u (by simpa using hv) hu)⟩;have:first=#[]:=by
    apply Array.toList_inj.1;simpa using hfirst
   subst this;simp[execOp,Instr.makeFunc]
  .cases h
 .rename_i t x;split at h
  .rename_i ti hu hti;have hd:=wbt hte (w:=w) hti;split at h
   .cases h
   .rename_i hne;simp only[sI7,pI7] at h;obtain⟨rfl,rfl⟩:=h;refine⟨.iface t (a.eval x),?_,.iface (ev hu)⟩;simp only[execOp,Instr.makeInterface,Sem.run_bind,hd,Result.andThen_ok];rfl
  .cases h
 .rename_i args argTypes;split at h
  .rename_i t x ht hx;split at h
   .rename_i hu;split at h<;>simp only[sI7,pI7,reduceCtorEq] at h;obtain⟨rfl,rfl⟩:=h;rename_i hl;have e1:argTypes=#[t]:=by apply Array.toList_inj.1;simpa using ht
    have e2:args=#[x]:=by apply Array.toList_inj.1;simpa using hx
    subst e1;subst e2;obtain⟨v,h1,h2⟩:=w6f (ty:=ty) hte (ev hu) hl;refine⟨v,?_,h2⟩;simp[execOp,resolve,invoke,builtin,h1]
   .cases h
  .cases h
 .rename_i args argTypes;split at h
  .rename_i x y hx;split at h<;>simp only[sI7,pI7,reduceCtorEq] at h;obtain⟨rfl,rfl⟩:=h;rename_i ha hb;have e2:args=#[x,y]:=by apply Array.toList_inj.1;simpa using hx
   subst e2;have hV:=ev ha;have hV':=ev hb;generalize hz:a.eval x=z at hV;generalize hz':a.eval y=z' at hV'
   cases hV;cases hV';refine⟨.int _ _,?_,.int⟩;simp[execOp,resolve,invoke,builtin,Builtin.min_,hz,hz',Builtin.min2,List.foldlM];omega
  .cases h
 .rename_i args argTypes;split at h
  .rename_i x y hx;split at h<;>simp only[sI7,pI7,reduceCtorEq] at h;obtain⟨rfl,rfl⟩:=h;rename_i ha hb;have e2:args=#[x,y]:=by apply Array.toList_inj.1;simpa using hx
   subst e2;have hV:=ev ha;have hV':=ev hb;generalize hz:a.eval x=z at hV;generalize hz':a.eval y=z' at hV'
   cases hV;cases hV';refine⟨.int _ _,?_,.int⟩;simp[execOp,resolve,invoke,builtin,Builtin.max_,hz,hz',Builtin.max2,List.foldlM];omega
  .cases h
 .cases h
def up{α:Type}(f:Nat->Option α)(r:Nat)(x:α):Nat->Option α:=λi=>if r=i then some x else f i
theorem waz{α:Type}(f:Nat->Option α)(r:Nat)(x:α):up f r x r=some x:=by simp[up]
theorem wav{α:Type}(f:Nat->Option α)(r:Nat)(x:α){i:Nat}(h:r≠i):up f r x i=f i:=by simp[up,h]
theorem wk4{α:Type}(r:Nat)(x:α)(l:List (Nat×α)):lk ((r,x)::l)=up (lk l) r x:=by funext i;rw[wax];rfl
section
variable {C:Ctx} {E:Ent} {O:Nat->Option AObj} {bs:Nat->Option Hd} {w:World}
theorem WRep.new(hW:WRep C E O bs w){r:Nat}(hb:bs r=none){w1:World}(h1:w1.heap=w.heap)(h2:w1.os=w.os)(h3:TL C.cnt w1 w)(h4:w1.output=w.output)
   (ob:Obj) (o:AObj) (c:Nat) (hfr:∀t sz n f,o≠ .row t sz n f true)
   (hok:Step w (MB E O bs) bs (w1.alloc ob) (MB E (up O r o) (up bs r (.blk w.heap.size c))) (up bs r (.blk w.heap.size c))->(w1.alloc ob).heap[w.heap.size]?=some ob->
     weq (w1.alloc ob) (MB E (up O r o) (up bs r (.blk w.heap.size c))) (up bs r (.blk w.heap.size c)) r o):
   Step w (MB E O bs) bs (w1.alloc ob) (MB E (up O r o) (up bs r (.blk w.heap.size c))) (up bs r (.blk w.heap.size c))/\WRep C E (up O r o) (up bs r (.blk w.heap.size c)) (w1.alloc ob):=by
 have hs1:w1.heap.size=w.heap.size:=by rw[h1]
 have hnew:(w1.alloc ob).heap[w.heap.size]?=some ob:=by rw[← hs1];exact heap_alloc_new w1 ob
 have hsz:(w1.alloc ob).heap.size=w.heap.size+1:=by simp[hs1]
 have old:∀i b c',bs i=some (.blk b c')->b≠w.heap.size:=λi b c' h=>by have:=hW.lt i b c' h;omega
 refine hW.next (λ_=>False) (λi h hi=>?_) (λi b c' hi=>?_) (λb hb=>hb.elim) (λb hb _=>?_) (by omega) (λb hm=>?_) (λhS i o' ho=>?_) (λi j o1 o2 b c1 c2 hi hj m1 m2 bi bj=>?_)
   (λi t sz n f b c' ho hb'=>?_) h2 ⟨h3.tape,h3.drawn⟩ h4
 · rw[wav]
   · exact hi
   · rintro rfl;rw[hb] at hi;cases hi
 · by_cases hr:r=i
   · subst hr;rw[waz] at hi;injection hi with hi;injection hi with e1 e2;subst e1;right;left;omega
   · rw[wav _ _ _ hr] at hi;exact .inl hi
 · rw[heap_alloc_old w1 ob b (by omega),h1]
 · obtain⟨i,o',c',ho,hm,hbi⟩:=hm
   by_cases hr:r=i
   · subst hr;rw[waz] at hbi;injection hbi with hbi;injection hbi with e1 e2;subst e1;right;omega
   · rw[wav _ _ _ hr] at ho hbi;exact .inl ⟨i,o',c',ho,hm,hbi⟩
 · by_cases hr:r=i
   · subst hr;rw[waz] at ho;injection ho with ho;subst ho;exact .inr (hok hS hnew)
   · rw[wav _ _ _ hr] at ho;exact .inl ⟨ho,λ_ _ _ h=>h⟩
 · by_cases hri:r=i
   · subst hri
     by_cases hrj:r=j
     · exact hrj
     · rw[waz] at bi;injection bi with bi;injection bi with e1 e2;subst e1;rw[wav _ _ _ hrj] at bj;exact absurd rfl (old _ _ _ bj)
   · rw[wav _ _ _ hri] at hi bi
     by_cases hrj:r=j
     · subst hrj;rw[waz] at bj;injection bj with bj;injection bj with e1 e2;subst e1;exact absurd rfl (old _ _ _ bi)
     · rw[wav _ _ _ hrj] at hj bj;exact hW.sep i j o1 o2 b c1 c2 hi hj m1 m2 bi bj
 · by_cases hr:r=i
   · subst hr;rw[waz] at ho;injection ho with ho;exact absurd ho (hfr _ _ _ _)
   · rw[wav _ _ _ hr] at ho hb';have hf:=hW.frz i t sz n f b c' ho hb';refine⟨λhm=>?_,λh=>hf (.inl h)⟩;obtain⟨j,o',c'',ho',hm',hbj⟩:=hm
     by_cases hrj:r=j
     · subst hrj;rw[waz] at hbj;injection hbj with hbj;injection hbj with e1 e2;subst e1;exact old _ _ _ hb' rfl
     · rw[wav _ _ _ hrj] at ho' hbj;exact hf (.inr ⟨j,o',c'',ho',hm',hbj⟩)
theorem WRep.modify(hW:WRep C E O bs w){x:Nat}{ox o:AObj}(hO:O x=some ox)(hm:ox.mut=true){bx cx:Nat}(hb:bs x=some (.blk bx cx)){w':World}
   (hheap:∀b,b≠bx->w'.heap[b]?=w.heap[b]?) (hsize:w'.heap.size=w.heap.size) (h2:w'.os=w.os) (h3:TL C.cnt w' w) (h4:w'.output=w.output) (hmo:o.mut=true)
   (hok:Step w (MB E O bs) bs w' (MB E (up O x o) bs) bs->weq w' (MB E (up O x o) bs) bs x o):
   Step w (MB E O bs) bs w' (MB E (up O x o) bs) bs/\WRep C E (up O x o) bs w':=by
 have hxm:mutB O bs bx:=⟨x,ox,cx,hO,hm,hb⟩;have back:∀b,mutB (up O x o) bs b->mutB O bs b:=by
   rintro b ⟨i,o',c',ho,hm',hbi⟩
   by_cases hr:x=i
   · subst hr;exact⟨x,ox,c',hO,hm,hbi⟩
   · rw[wav _ _ _ hr] at ho;exact⟨i,o',c',ho,hm',hbi⟩
 refine hW.next (λb=>b=bx) (λi h hi=>hi) (λi b c' hi=>.inl hi) (λb hb'=>by subst hb';exact hxm) (λb _ hne=>hheap b hne) (by omega) (λb hb'=>.inl (back b hb')) (λhS i o' ho=>?_)
   (λi j o1 o2 b c1 c2 hi hj m1 m2 bi bj=>?_) (λi t sz n f b c' ho hb'=>?_) h2 ⟨h3.tape,h3.drawn⟩ h4
 · by_cases hr:x=i
   · subst hr;rw[waz] at ho;injection ho with ho;subst ho;exact .inr (hok hS)
   · rw[wav _ _ _ hr] at ho
     cases hmi:o'.mut with
     |true=>
       refine .inl ⟨ho,λb c' hbi e=>?_⟩;subst e;exact hr (hW.sep x i ox o' b cx c' hO ho hm hmi hb hbi)
     |false=>
       cases o' with
       |dead=>exact .inr trivial
       |row t sz n f fr=>
         have:fr=true:=by simpa[AObj.mut] using hmi
         subst this;refine .inl ⟨ho,λb c' hbi e=>?_⟩;subst e;exact hW.frz i t sz n f b c' ho hbi (.inr hxm)
       |_=>simp[AObj.mut] at hmi
 · have bk:∀ {k:Nat} {o':AObj},up O x o k=some o'->o'.mut=true->∃o'',O k=some o''/\o''.mut=true:=by
     intro k o' hk hmk
     by_cases hr:x=k
     · subst hr;exact⟨ox,hO,hm⟩
     · rw[wav _ _ _ hr] at hk;exact⟨o',hk,hmk⟩
   obtain⟨o1',h1,m1'⟩:=bk hi m1;obtain⟨o2',h2',m2'⟩:=bk hj m2;exact hW.sep i j o1' o2' b c1 c2 h1 h2' m1' m2' bi bj
 · by_cases hr:x=i
   · subst hr;rw[waz] at ho;injection ho with ho;subst ho;simp[AObj.mut] at hmo
   · rw[wav _ _ _ hr] at ho;have hf:=hW.frz i t sz n f b c' ho hb';exact⟨λh=>hf (.inr (back b h)),λh=>hf (.inl h)⟩
theorem WRep.kill(hW:WRep C E O bs w)(x:Nat):Step w (MB E O bs) bs w (MB E (up O x .dead) bs) bs/\WRep C E (up O x .dead) bs w:=by
 have back:∀b,mutB (up O x .dead) bs b->mutB O bs b:=by
  rintro b ⟨i,o',c',ho,hm',hbi⟩
  by_cases hr:x=i
  .subst hr;rw[waz] at ho;injection ho with ho;subst ho;simp[AObj.mut] at hm'
  .rw[wav _ _ _ hr] at ho;exact⟨i,o',c',ho,hm',hbi⟩
 refine hW.next (λ_=>False) (λi h hi=>hi) (λi b c' hi=>.inl hi) (λb hb'=>hb'.elim) (λb _ _=>rfl) (lR7 _) (λb hb'=>.inl (back b hb')) (λhS i o' ho=>?_)
  (λi j o1 o2 b c1 c2 hi hj m1 m2 bi bj=>?_) (λi t sz n f b c' ho hb'=>?_) rfl ⟨rfl,λ_=>lR7 _⟩ rfl
 .by_cases hr:x=i
  .subst hr;rw[waz] at ho;injection ho with ho;subst ho;exact .inr trivial
  .rw[wav _ _ _ hr] at ho;exact .inl ⟨ho,λ_ _ _ h=>h⟩
 .have bk:∀ {k:Nat} {o':AObj},up O x .dead k=some o'->o'.mut=true->O k=some o':=by
   intro k o' hk hmk
   by_cases hr:x=k
   .subst hr;rw[waz] at hk;injection hk with hk;subst hk;simp[AObj.mut] at hmk
   .rw[wav _ _ _ hr] at hk;exact hk
  exact hW.sep i j o1 o2 b c1 c2 (bk hi m1) (bk hj m2) m1 m2 bi bj
 .by_cases hr:x=i
  .subst hr;rw[waz] at ho;injection ho with ho;cases ho
  .rw[wav _ _ _ hr] at ho;have hf:=hW.frz i t sz n f b c' ho hb';exact⟨λh=>hf (.inr (back b h)),λh=>hf (.inl h)⟩
theorem WRep.freeze(hW:WRep C E O bs w){x:Nat}{t:TypeId}{sz n:Nat}{f:Nat->List AV}{fr:Bool}(hx:O x=some (.row t sz n f fr)):
  Step w (MB E O bs) bs w (MB E (up O x (.row t sz n f true)) bs) bs/\WRep C E (up O x (.row t sz n f true)) bs w:=by
 have back:∀b,mutB (up O x (.row t sz n f true)) bs b->mutB O bs b/\∀c,bs x=some (.blk b c)->fr=true:=by
  rintro b ⟨i,o',c',ho,hm',hbi⟩
  by_cases hr:x=i
  .subst hr;rw[waz] at ho;injection ho with ho;subst ho;simp[AObj.mut] at hm'
  .rw[wav _ _ _ hr] at ho;refine⟨⟨i,o',c',ho,hm',hbi⟩,λc hbx=>?_⟩
   cases fr with
   |true=>rfl
   |false=>exact absurd (hW.sep x i _ o' b c c' hx ho rfl hm' hbx hbi) hr
 refine hW.next (λ_=>False) (λi h hi=>hi) (λi b c' hi=>.inl hi) (λb hb'=>hb'.elim) (λb _ _=>rfl) (lR7 _) (λb hb'=>.inl (back b hb').1) (λhS i o' ho=>?_)
  (λi j o1 o2 b c1 c2 hi hj m1 m2 bi bj=>?_) (λi t' sz' n' f' b c' ho hb'=>?_) rfl ⟨rfl,λ_=>lR7 _⟩ rfl
 .by_cases hr:x=i
  .subst hr;rw[waz] at ho;injection ho with ho;subst ho;exact .inr ((hW.obj x _ hx).step hS λ_ _ _=>rfl)
  .rw[wav _ _ _ hr] at ho;exact .inl ⟨ho,λ_ _ _ h=>h⟩
 .have bk:∀ {k:Nat} {o':AObj},up O x (.row t sz n f true) k=some o'->o'.mut=true->O k=some o':=by
   intro k o' hk hmk
   by_cases hr:x=k
   .subst hr;rw[waz] at hk;injection hk with hk;subst hk;simp[AObj.mut] at hmk
   .rw[wav _ _ _ hr] at hk;exact hk
  exact hW.sep i j o1 o2 b c1 c2 (bk hi m1) (bk hj m2) m1 m2 bi bj
 .by_cases hr:x=i
  .subst hr
   cases fr with
   |true=>
    have hf:=hW.frz x t sz n f b c' hx hb';exact⟨λh=>hf (.inr (back b h).1),λh=>hf (.inl h)⟩
   |false=>
    refine⟨λh=>?_,λh=>hW.out b ⟨x,_,c',hx,rfl,hb'⟩ h⟩
    cases (back b h).2 c' hb'
  .rw[wav _ _ _ hr] at ho;have hf:=hW.frz i t' sz' n' f' b c' ho hb';exact⟨λh=>hf (.inr (back b h).1),λh=>hf (.inl h)⟩
end
end Go.Eng
