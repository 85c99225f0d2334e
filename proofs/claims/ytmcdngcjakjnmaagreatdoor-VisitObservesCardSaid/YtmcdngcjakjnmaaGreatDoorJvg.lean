/- The engine, part 33: maps whose keys are structs of texts and numbers. -/
import Derived.Test.YtmcdngcjakjnmaaGreatDoorJvf
import Derived.MapKept
import Derived.Below
import Derived.WideKeyRuns
namespace Go.Eng
def rnO(σ:Nat->Option Nat):AObj->AObj
 |.cells cs t=>.cells (AV.rnL σ cs) t
 |.row t sz n f fr=>.row t sz n (λi=>AV.rnL σ (f i)) fr
 |.amap es=>.amap (es.map λp=>(p.1.rn σ,p.2.rn σ))
 |.siter s p=>.siter s p
 |.miter m n l=>match σ m with
  |some m'=>.miter m' n l
  |none=>.dead
 |.rmap es j v=>.rmap es j (v.map λu=>u.rn σ)
 |.dead=>.dead
theorem rnO_le{σ:Nat->Option Nat}(h:∀j,∃k,σ j=some k)(o:AObj):OLe σ o (rnO σ o):=by
 cases o with
 |miter m n l=>obtain⟨k,hk⟩:=h m;simp[rnO,hk,OLe]
 |_=>simp[rnO,OLe]
def sigN(pass:List Nat)(k j:Nat):Nat:=match pass[j]? with
 |some r=>r
 |none=>k+(j - pass.length)
theorem wp7(pass:List Nat)(k j:Nat):sig pass k j=some (sigN pass k j):=by
 unfold sig sigN
 cases pass[j]?<;>rfl
def ndB:List Nat->Bool
 |[]=>true
 |x::l=> !(hasN l x) && ndB l
theorem we0:∀ {l:List Nat},ndB l=true->l.Nodup
 |[],_=>List.nodup_nil
 |x::l,h=>by
  simp only[ndB,bA7,Bool.not_eq_true'] at h;refine List.nodup_cons.2 ⟨λhx=>?_,we0 h.2⟩;rw[(wbj _ _).2 hx] at h
  cases h.1
def wl4(pass:List Nat)(k:Nat)(Os:List (Nat×AObj)):List (Nat×AObj):=Os.map λp=>(sigN pass k p.1,rnO (sig pass k) p.2)
theorem wq1{α:Type}:∀ {l:List (Nat×α)},(l.map Prod.fst).Nodup->∀ {p:Nat×α},p∈l->lk l p.1=some p.2
 |[],_,p,h=>by simp at h
 |q::l,hn,p,h=>by
  simp only[List.map_cons,List.nodup_cons] at hn;rw[wa0]
  rcases List.mem_cons.1 h with rfl | h'
  ·simp
  ·have:q.1≠p.1:=λe=>hn.1 (by rw[e];exact List.mem_map.2 ⟨p,h',rfl⟩);simp[this,wq1 hn.2 h']
theorem wbs.back(pass:List Nat)(k:Nat)(Os:List (Nat×AObj))(h:ndB (Os.map Prod.fst)=true):wbs (sig pass k) Os (wl4 pass k Os):=by
 have hn:=we0 h;have:∀l:List (Nat×AObj),(∀p∈l,p∈Os)->wbs (sig pass k) Os (wl4 pass k l):=by
  intro l
  induction l with
  |nil=>exact λ_=>trivial
  |cons p l ih=>
   intro hs;exact⟨⟨p.1,p.2,wp7 _ _ _,wq1 hn (hs p (by simp)),rnO_le (λj=>⟨_,wp7 _ _ _⟩) _⟩,ih λq hq=>hs q (List.mem_cons_of_mem _ hq)⟩
 exact this Os λ_ h=>h
def ov(l:List (Nat×AObj)):List (Nat×AObj)->List (Nat×AObj)
 |[]=>l
 |p::O=>match hasN (l.map Prod.fst) p.1 with
  |true=>ov l O
  |false=>ov (l++[p]) O
theorem weh:∀(O l:List (Nat×AObj)),lk (ov l O)=lk (l++O)
 |[],l=>by simp[ov]
 |p::O,l=>by
  simp only[ov];split
  ·rename_i h;rw[weh O l];funext r;rw[wcx,wcx,wa0]
   by_cases hr:p.1=r
   ·subst hr
    cases hx:lk l p.1 with
    |some y=>rfl
    |none=>
     have:=(wfx l p.1).2 ((wbj _ _).1 h);exact absurd hx this
   ·simp[hr]
  ·rw[weh O (l++[p])];simp
theorem AOps.congrO{C:Ctx}{m N:Nat}{ops:Array Oper}{l:List Oper}{Q:Exit->St->Prop}{T:List (Nat×AV)}{O O':List (Nat×AObj)}{nx:Nat}{dec:List Nat}(h:lk O'=lk O)(k:AOps C m N ops l Q ⟨T,O',nx,dec⟩):AOps C m N ops l Q ⟨T,O,nx,dec⟩:=by
 intro E hE bs a w hr;refine k E hE bs a w ?_;obtain⟨h1,h2,h3⟩:=hr;refine⟨?_,?_,h3⟩
 ·show Rep C E N (lk T) (lk O') bs a w;rw[h];exact h1
 ·show ∀r,nx<=r->lk O' r=none/\bs r=none;rw[h];exact h2
abbrev ADet(C:Ctx)(f:FuncId)(args:List AV)(objs:List AObj)(U:AV)(Os:List (Nat×AObj)):Prop:=waw C f args objs λu O=>u=U/\O=Os
section
variable {C:Ctx} {m N:Nat} {ops:Array Oper} {rest:List Oper} {Q:Exit->St->Prop} {o:Oper} {T:List (Nat×AV)} {O:List (Nat×AObj)} {nx:Nat} {dec:List Nat}
theorem AOps.callD{fo:Operand}{args:Array Operand}{at_:Array TypeId}{f:FuncId}{cap as:List AV}{cobjs:List AObj}{U u2:AV}{Os O2:List (Nat×AObj)}{T2:List (Nat×AV)}{nx2:Nat}(pass:List Nat)
  (hop:o.op= .call { callee:=.value fo,args:=args,argTypes:=at_ }) (hg:o.guard=none) (hd:wa4 N o.dst=true) (hf:evO (lk T) fo=some (.func f cap)) (ha:evL (lk T) args.toList=some as)
  (hnd:ndB pass=true) (hO:wcf (idxN pass) (lk O) pass cobjs) (hc:ADet C f (AV.rnL (idxN pass) (as++cap)) cobjs U Os) (hnk:ndB (Os.map Prod.fst)=true)
  (hu:putT o.dst (U.rn (sig pass nx)) T=T2) (hO2:ov (wl4 pass nx Os) (ov (deads pass) O)=O2) (hnx:nx+16=nx2)
  (k:AOps C m N ops rest Q ⟨T2,O2,nx2,dec⟩):AOps C m N ops (o::rest) Q ⟨T,O,nx,dec⟩:=by
 have _:=u2;have hO':∀ {l:List Nat} {l':List AObj},wcf (idxN pass) (lk O) l l'->wec (idxN pass) O l l':=by
  intro l
  induction l with
  |nil=>intro l' h;cases l' with
   |nil=>trivial
   |cons _ _=>exact h.elim
  |cons x l ih=>intro l' h;cases l' with
   |nil=>exact h.elim
   |cons y l'=>exact⟨h.1,ih h.2⟩
 refine AOps.call (s:=⟨T,O,nx,dec⟩) pass hop hg hd hf ha (we0 hnd) (hO' hO) hc ?_;rintro u O' ⟨rfl,rfl⟩;refine⟨_,_,rfl,wbs.back pass nx O' hnk,?_⟩;subst hu;subst hO2;subst hnx;refine AOps.congrO (O':=ov (wl4 pass nx O') (ov (deads pass) O)) ?_ k;rw[weh];funext r;rw[wcx,wcx,weh]
end
def wcm(opl:List Oper)(hT:List Nat)(T:List (Nat×AV))(o:Oper)(w:Bool):Prop:=
 (o.guard=none/\w=true)∨(∃d b want,gslot opl o=some (d,want)/\hide hT (lk T) d=some (.bool b)/\(b==want)=w)∨∃d want,gslot opl o=some (d,want)/\hide hT (lk T) d=some (.tuple [])/\w=false
section
variable {C:Ctx} {N:Nat} {opl:List Oper} {hT hO:List Nat} {k:Nat} {o:Oper} {T:List (Nat×AV)} {O:List (Nat×AObj)} {te:TE}
theorem wcm.none(h:o.guard= .none):wcm opl hT T o true:=.inl ⟨h,rfl⟩
theorem wcm.some{d:Nat}{b want w:Bool}(b':Bool)(h1:gslot opl o= .some (d,want))(h2:hide hT (lk T) d= .some (.bool b))(hb:b=b')(h3:(b'==want)=w):wcm opl hT T o w:=.inr (.inl ⟨d,b,want,h1,h2,by rw[hb];exact h3⟩)
theorem wcm.undef{d:Nat}{want:Bool}(h1:gslot opl o= .some (d,want))(h2:hide hT (lk T) d= .some (.tuple [])):wcm opl hT T o false:=.inr (.inr ⟨d,want,h1,h2,rfl⟩)
theorem wbt.pure(hte:TE.ok C.P te)(hn:∀t ti,lk te t=some ti->wa2 ti.desc=false->ti.sz=1)(hg:wcm opl hT T o true){u:AV}{vc:Prop}(h:wb1 te (hide hT (lk T)) (hide hO (lk O)) o.op=some (u,vc))(hd:wa4 N o.dst=true)(hvc:vc):
  wbt C N opl hT hO k o ⟨true,u,[]⟩ T O:=⟨hg,.inl ⟨rfl,wao.pure hte hn h hd hvc⟩⟩
theorem wbt.eff(hte:TE.ok C.P te)(hg:wcm opl hT T o true){u:AV}{l:List (Nat×AObj)}{vc:Prop}(h:wb2 te (hide hT (lk T)) (hide hO (lk O)) k o.op=some (u,l,vc))(hd:wa4 N o.dst=true)(hvc:vc):
  wbt C N opl hT hO k o ⟨true,u,l⟩ T O:=⟨hg,.inl ⟨rfl,wao.eff hte h hd hvc⟩⟩
theorem wbt.skip(hg:wcm opl hT T o false)(hd:wa4 N o.dst=true):wbt C N opl hT hO k o ⟨false,.tuple [],[]⟩ T O:=⟨hg,.inr ⟨rfl,rfl,rfl,hd⟩⟩
end
def wf4(n:Nat)(f:Nat->List AV):List (AV×AV):=(List.range n).map λi=>((f i).getD 0 .any,(f i).getD 1 .any)
def mapA(O:Nat->Option AObj):AV->Option (List (AV×AV))
 |.map r=>match O r with
  |some (.amap es)=>some es
  |_=>none
 |.vmap n f=>some (wf4 n f)
 |_=>none
theorem wqz{O O':Nat->Option AObj}(hO:Sub O O'){u:AV}{es:List (AV×AV)}(h:mapA O u=some es):mapA O' u=some es:=by
 cases u with
 |map r=>
  replace h:(match O r with | some (.amap es)=>some es | _=>none)=some es:=h
  show (match O' r with | some (.amap es)=>some es | _=>none)=some es
  cases hr:O r with
  |none=>rw[hr] at h;cases h
  |some o=>rw[hr] at h;rw[hO r o hr];exact h
 |vmap n f=>exact h
 |_=>cases h
theorem getD_V{w:World}{M:Nat->Prop}{v:Value}{l:List AV}{j:Nat}(h:∀u,l[j]?=some u->V w M nob v u)(bs:Nat->Option Hd):V w M bs v (l.getD j .any):=by
 rw[List.getD_eq_getElem?_getD]
 cases hl:l[j]? with
 |none=>exact .any
 |some u=>exact(h u hl).lift
theorem wu1{C:Ctx}{E:Ent}{O:Nat->Option AObj}{bs:Nat->Option Hd}{w:World}(hW:WRep C E O bs w){v:Value}{u:AV}(hv:V w (MB E O bs) bs v u){es:List (AV×AV)}(h:mapA O u=some es):
  ∃b ents clock,v= .map (some b)/\w.heap[b]?=some (.map ents clock)/\wgi w (MB E O bs) bs ents es:=by
 cases hv with
 |map hbr=>
  rename_i r b' c';replace h:(match O r with | some (.amap es)=>some es | _=>none)=some es:=h
  split at h
  ·rename_i es' ho
   cases h;obtain⟨b,c,ents,clock,h1,h2,h3,h4⟩:=hW.obj r _ ho;rw[h1] at hbr;injection hbr with hbr;injection hbr with e1 e2;subst e1;exact⟨b,ents,clock,rfl,h2,h3⟩
  ·cases h
 |vmap hM hb hm hn hk hv=>
  rename_i b n f ents clock
  cases h;refine⟨b,ents,clock,rfl,hm,by simp[wf4,hn],λj e p hj hp=>?_⟩;have hjn:j<n:=by rw[← hn];exact(Array.getElem?_eq_some_iff.1 hj).1
  simp only[wf4,List.getElem?_map,List.getElem?_range hjn,Option.map_some,sI7] at hp;subst hp;exact⟨getD_V (λu hu=>hk j e u hj hu) bs,getD_V (λu hu=>hv j e u hj hu) bs⟩
 |_=>cases h
theorem AOps.step{C:Ctx}{m N:Nat}{ops:Array Oper}{rest:List Oper}{Q:Exit->St->Prop}{o:Oper}{T T2:List (Nat×AV)}{O O2:List (Nat×AObj)}{nx nx2:Nat}{dec:List Nat}{u:AV}{l:List (Nat×AObj)}
  (hg:o.guard=none) (h:wao C N o (lk T) (lk O) nx u l) (hl:(l.all λp=>Nat.blt p.1 (nx+16))=true) (hT:putT o.dst u T=T2) (hO:l++O=O2) (hnx:nx+16=nx2)
  (k:AOps C m N ops rest Q ⟨T2,O2,nx2,dec⟩):AOps C m N ops (o::rest) Q ⟨T,O,nx,dec⟩:=by
 subst hT;subst hO;subst hnx;intro E hE bs a w hr;refine wpList_plain hg λK hK=>?_;refine h E _ _ bs a w _ _ (Sub.refl _) (Sub.refl _) hr.1 (λr h1 _=>hr.2.1 r h1) λbs' a' w' hb hr'=>hK _ _ (k E hE bs' a' w' ⟨?_,λr hrr=>?_,Nat.le_trans hr.2.2 (Nat.le_add_right _ _)⟩)
 ·show Rep C E N (lk (putT o.dst u T)) (lk (l++O)) bs' a' w';rw[wku,lk_upL];exact hr'
 ·have hrr':nx+16<=r:=hrr;obtain⟨q1,q2⟩:=hr.2.1 r (show nx<=r by omega);refine⟨?_,by rw[hb r (by omega)];exact q2⟩;show lk (l++O) r=none;rw[wcx];have:lk l r=none:=by
   cases hx:lk l r with
   |none=>rfl
   |some y=>
    have:=List.all_eq_true.1 hl _ (wkw l r y hx);simp[Nat.blt_eq] at this;omega
  rw[this];simpa using q1
def isK:TypeDesc->AV->Bool
 |.string,.str _=>true
 |.int k,.int k' _=>decide (k=k')
 |_,_=>false
theorem wdu{w:World}{M:Nat->Prop}{bs:Nat->Option Hd}{d:TypeDesc}{v:Value}{u:AV}(h:V w M bs v u)(hk:isK d u=true):MapKept.IsKey d v:=by
 unfold isK at hk;split at hk
 ·cases h;trivial
 ·cases h;simpa[MapKept.IsKey,eq_comm] using hk
 ·cases hk
theorem w6r{a b:ByteArray}(h:a.data.toList=b.data.toList):a=b:=by
 cases a;cases b;simp only[ByteArray.mk.injEq];exact Array.toList_inj.1 h
theorem wf3{w:World}{M:Nat->Prop}{bs:Nat->Option Hd}{d:TypeDesc}{v v':Value}{u u':AV}(h:V w M bs v u)(h':V w M bs v' u')(hk:isK d u=true)(hk':isK d u'=true):v=v'↔u=u':=by
 have cs:(∃s,u= .str s)∨∃k n,u= .int k n:=by
  unfold isK at hk;split at hk
  ·exact .inl ⟨_,rfl⟩
  ·exact .inr ⟨_,_,rfl⟩
  ·cases hk
 have cs':(∃s,u'= .str s)∨∃k n,u'= .int k n:=by
  unfold isK at hk';split at hk'
  ·exact .inl ⟨_,rfl⟩
  ·exact .inr ⟨_,_,rfl⟩
  ·cases hk'
 rcases cs with⟨s,rfl⟩ | ⟨k,n,rfl⟩
 ·rcases cs' with⟨s',rfl⟩ | ⟨k',n',rfl⟩
  ·cases h with | str h=>cases h' with | str h'=>
   constructor
   ·intro e;cases e;rw[← h, ← h']
   ·intro e;cases e;rw[w6r (h.trans h'.symm)]
  ·cases h;cases h';constructor<;>intro e<;>cases e
 ·rcases cs' with⟨s',rfl⟩ | ⟨k',n',rfl⟩
  ·cases h;cases h';constructor<;>intro e<;>cases e
  ·cases h;cases h';constructor<;>intro e<;>cases e<;>rfl
def weq:Value->Option AV
 |.agg vs=>match avcs vs.toList with
  |some cs=>some (.agg cs)
  |none=>none
 |v=>avc v
theorem wgj{w:World}{M:Nat->Prop}{bs:Nat->Option Hd}{v:Value}{u:AV}(h:weq v=some u):V w M bs v u:=by
 unfold weq at h;split at h
 ·split at h
  ·rename_i vs cs hc;simp only[sI7] at h;subst h;have:=wf9 (w:=w) (M:=M) (bs:=bs) _ _ hc;exact .agg this.1 this.2.1 this.2.2
  ·cases h
 ·exact wsc h
def wjl(es:List (AV×AV))(k:AV):Option AV->Prop
 |some v=>∃j:Nat,es[j]?=some (k,v)
 |none=>∀p∈es,p.1≠k
section
variable {C:Ctx} {N:Nat} {o:Oper} {T:Nat->Option AV} {O:Nat->Option AObj} {k:Nat} {te:TE}
theorem wv7 {w : World} {M : Nat → Prop} {bs : Nat → Option Hd} {d : TypeDesc} {ents : Array MapEntry} {es : List (AV × AV)} (hE : wgi w M bs ents es) (hks : (es.all fun p => isK d p.1) = true) {kv : Value} {ku : AV} (hkv : V w M bs kv ku) (hk : isK d ku = true) :
    (Instr.findNow d kv ents.toList 0 = some none ∧ ∀ p ∈ es, p.1 ≠ ku) ∨ ∃ (j : Nat) (e : MapEntry) (v : AV), Instr.findNow d kv ents.toList 0 = some (some (j, e.val)) ∧ ents[j]? = some e ∧ e.key = kv ∧ es[j]? = some (ku, v) ∧ V w M bs e.val v := by
  have hall : ∀ (j : Nat) (e : MapEntry) (p : AV × AV), ents[j]? = some e → es[j]? = some p → isK d p.1 = true ∧ V w M bs e.key p.1 ∧ V w M bs e.val p.2 := fun j e p he hp =>
    ⟨List.all_eq_true.1 hks p (List.mem_of_getElem? hp), hE.2 j e p he hp⟩
  have hkeys : ∀ x ∈ ents.toList, MapKept.IsKey d x.key := by
    intro x hx
    obtain ⟨j, hj⟩ := List.getElem?_of_mem hx
    have hj' : ents[j]? = some x := by simpa using hj
    have hlt : j < es.length := by rw [← hE.1]; exact (Array.getElem?_eq_some_iff.1 hj').1
    obtain ⟨a, b, _⟩ := hall j x _ hj' (List.getElem?_eq_getElem hlt)
    exact wdu b a
  rcases MapKept.findNow_spec (wdu hkv hk) ents.toList 0 hkeys with ⟨h1, h2⟩ | ⟨j, e, h1, h2, h3⟩
  · refine .inl ⟨h1, fun p hp he => ?_⟩
    obtain ⟨j, hj⟩ := List.getElem?_of_mem hp
    have hlt : j < ents.size := by rw [hE.1]; exact (List.getElem?_eq_some_iff.1 hj).1
    obtain ⟨a, b, _⟩ := hall j _ _ (Array.getElem?_eq_getElem hlt) hj
    exact h2 _ (by simp) ((wf3 b hkv a hk).2 he)
  · have hj' : ents[j]? = some e := by simpa using h2
    have hlt : j < es.length := by rw [← hE.1]; exact (Array.getElem?_eq_some_iff.1 hj').1
    obtain ⟨a, b, c⟩ := hall j e _ hj' (List.getElem?_eq_getElem hlt)
    have he : es[j].1 = ku := (wf3 b hkv a hk).1 h3
    refine .inr ⟨j, e, es[j].2, by simpa using h1, hj', h3, ?_, c⟩
    rw [List.getElem?_eq_getElem hlt, ← he]
theorem wao.lookup(hte:TE.ok C.P te){mt kt et:TypeId}{mx kx:Operand}{ok:Bool}{mu:AV}{es:List (AV×AV)}{ku u0 u:AV}{ti tk tie:TI}(res:Option AV)
  (hop:o.op= .lookup mt mx kx ok) (hd:wa4 N o.dst=true) (hm:evO T mx=some mu) (hk:evO T kx=some ku) (ht:lk te mt=some ti) (htd:ti.desc= .map kt et) (hkt:lk te kt=some tk) (het:lk te et=some tie)
  (hO:mapA O mu=some es) (hkK:isK tk.desc ku=true) (hz:∀(w:World) (M:Nat->Prop) (bs:Nat->Option Hd),V w M bs tie.zero u0) (hks:(es.all λp=>isK tk.desc p.1)=true)
  (hu:(match ok with | true=>.tuple [res.getD u0,.bool res.isSome] | false=>res.getD u0)=u) (hH:wjl es ku res) (huniq:∀(j j':Nat) v v',es[j]?=some (ku,v)->es[j']?=some (ku,v')->v=v'):wao C N o T O k u []:=by
 intro E T' O' bs a w K Q hT hOs hr hf hK;have hmv:=wa6 hr.1 (wa7 hT hm);have hkv:=wa6 hr.1 (wa7 hT hk);generalize hmx:a.eval mx=mv at hmv;generalize hkx:a.eval kx=kv at hkv;obtain⟨b,ents,clock,rfl,h2,h3⟩:=wu1 hr.2 hmv (wqz hOs hO);have hund:=wbh hte (w:=w) ht;have hkd:=(hte kt tk hkt).1;have hzr:=wet hte (w:=w) het;have fin:∀v,(Instr.lookup mt (.map (some b)) kv ok).run C.P w= .ok v w->V w (MB E O' bs) bs v u->o.wp C.P a w K Q:=by
  intro v hv hV;have:(execOp a.eval o).run C.P w= .ok (.value v) w:=by simp[execOp,hop,hmx,hkx,hv]
  unfold Oper.wp;rw[this];exact hK bs _ _ (λ_ _=>rfl) ⟨hr.1.putF hd hV,hr.2⟩
 have hkey:=wdu hkv hkK
 rcases wv7 h3 hks hkv hkK with⟨f1,f2⟩ | ⟨j,e,v,f1,f2,f3,f4,f5⟩
 ·have hres:res=none:=by
   cases res with
   |none=>rfl
   |some v=>obtain⟨j,hj⟩:=hH;exact absurd rfl (f2 _ (List.mem_of_getElem? hj))
  subst hres;refine fin (if ok then .tuple #[tie.zero,.bool false] else tie.zero) ?_ ?_
  ·simp[Instr.lookup,hund,htd,MapKept.run_getObj_map h2,MapKept.run_checkKey hkd hkey,MapKept.run_findKey hkd f1,hzr,Result.andThen]
  ·subst hu;have hz':V w (MB E O' bs) bs tie.zero u0:=hz _ _ _
   cases ok with
   |false=>exact hz'
   |true=>
    refine .tuple rfl λj v u hv hu=>?_
    match j with
    |0=>simp at hv hu;subst hv;subst hu;exact hz'
    |1=>simp at hv hu;subst hv;subst hu;exact .bool
    |j+2=>simp at hv
 ·have hres:res=some v:=by
   cases res with
   |none=>exact absurd rfl (hH _ (List.mem_of_getElem? f4))
   |some v'=>obtain⟨j',hj'⟩:=hH;rw[huniq _ _ _ _ hj' f4]
  subst hres;refine fin (if ok then .tuple #[e.val,.bool true] else e.val) ?_ ?_
  ·simp[Instr.lookup,hund,htd,MapKept.run_getObj_map h2,MapKept.run_checkKey hkd hkey,MapKept.run_findKey hkd f1,Result.andThen]
  ·subst hu
   cases ok with
   |false=>exact f5
   |true=>
    refine .tuple rfl λj v u hv hu=>?_
    match j with
    |0=>simp at hv hu;subst hv;subst hu;exact f5
    |1=>simp at hv hu;subst hv;subst hu;exact .bool
    |j+2=>simp at hv
theorem wao.mapUpdate(hte:TE.ok C.P te){mt kt et:TypeId}{mx kx vx:Operand}{r:Nat}{es es':List (AV×AV)}{ku vu:AV}{ti tk:TI}
  (hop:o.op= .mapUpdate mt mx kx vx) (hd:o.dst=none) (hm:evO T mx=some (.map r)) (hk:evO T kx=some ku) (hv:evO T vx=some vu) (ht:lk te mt=some ti) (htd:ti.desc= .map kt et) (hkt:lk te kt=some tk)
  (hO:O r=some (.amap es)) (hkK:isK tk.desc ku=true) (hks:(es.all λp=>isK tk.desc p.1)=true)
  (hH:(∀(j:Nat) v,es[j]?=some (ku,v)->es'=es.set j (ku,vu))/\((∀p∈es,p.1≠ku)->es'=es++[(ku,vu)])):wao C N o T O k .any [(r,.amap es')]:=by
 intro E T' O' bs a w K Q hT hOs hr hf hK;have hmv:=wa6 hr.1 (wa7 hT hm);have hkv:=wa6 hr.1 (wa7 hT hk);have hvv:=wa6 hr.1 (wa7 hT hv);have hOr:=hOs _ _ hO;obtain⟨b,c,ents,clock,h1,h2,h3,h4⟩:=hr.2.obj r _ hOr;generalize hmx:a.eval mx=mv at hmv;generalize hkx:a.eval kx=kv at hkv;generalize hvx:a.eval vx=vv at hvv
 cases hmv with | map hbr=>
 rw[h1] at hbr;injection hbr with hbr;injection hbr with e1 e2;subst e1;subst e2;have hund:=wbh hte (w:=w) ht;have hkd:=(hte kt tk hkt).1;have hkey:=wdu hkv hkK;have fin:∀ents' clock',(Instr.mapUpdate mt (.map (some b)) kv vv).run C.P w= .ok () { w with heap:=w.heap.setIfInBounds b (.map ents' clock') }->
   (∀w' M',Step w (MB E O' bs) bs w' M' bs->wgi w' M' bs ents' es')->wh6 ents' clock'->o.wp C.P a w K Q:=by
  intro ents' clock' hrun hent hborn;have:(execOp a.eval o).run C.P w= .ok .skip { w with heap:=w.heap.setIfInBounds b (.map ents' clock') }:=by simp[execOp,hop,hmx,hkx,hvx,hrun]
  unfold Oper.wp;rw[this];obtain⟨g1,g2⟩:=MapKept.heap_set (o':=.map ents' clock') h2
  obtain⟨hS,hW⟩:=hr.2.modify (x:=r) (o:=.amap es') hOr rfl h1 (w':={ w with heap:=w.heap.setIfInBounds b (.map ents' clock') }) (λb' hb'=>g2 b' hb') (by simp) rfl ⟨rfl,λ_=>lR7 _⟩ rfl rfl
   (λhS=>⟨b,c,ents',clock',h1,g1,hent _ _ hS,hborn⟩)
  refine hK bs _ _ (λ_ _=>rfl) ⟨?_,hW⟩;rw[hd];exact hr.1.step hS
 rcases wv7 h3 hks hkv hkK with⟨f1,f2⟩ | ⟨j,e,v,f1,f2,f3,f4,f5⟩
 ·have he:=hH.2 f2;subst he;refine fin (ents.push ⟨kv,vv,clock⟩) (clock+1) ?_ (λw' M' hS=>⟨by simp[h3.1],λi e p hi hp=>?_⟩) ⟨by simp[h4.1],λi e hi=>?_⟩
  ·simp[Instr.mapUpdate,hund,htd,MapKept.run_getObj_map h2,MapKept.run_checkKey hkd hkey,MapKept.run_findKey hkd f1,MapKept.run_setObj_map _ h2,Result.andThen]
  ·rw[Array.getElem?_push] at hi;split at hi
   ·rename_i hie;simp only[sI7] at hi;subst hi;rw[hie,h3.1] at hp;simp at hp;subst hp;exact⟨hkv.step hS,hvv.step hS⟩
   ·have hlt:i<es.length:=by rw[← h3.1];exact(Array.getElem?_eq_some_iff.1 hi).1
    rw[List.getElem?_append_left hlt] at hp;obtain⟨x,y⟩:=h3.2 i e p hi hp;exact⟨x.step hS,y.step hS⟩
  ·rw[Array.getElem?_push] at hi;split at hi
   ·rename_i hie;simp only[sI7] at hi;subst hi;rw[hie];exact h4.1
   ·exact h4.2 i e hi
 ·have he:=hH.1 j v f4;subst he;subst f3;refine fin (ents.modify j λe'=>{ e' with key:=e.key,val:=vv }) clock ?_ (λw' M' hS=>⟨by simp[h3.1],λi e' p hi hp=>?_⟩) ⟨by simp[h4.1],λi e' hi=>?_⟩
  ·simp[Instr.mapUpdate,hund,htd,MapKept.run_getObj_map h2,MapKept.run_checkKey hkd hkey,MapKept.run_findKey hkd f1,f2,MapKept.run_keyThatStays hkey,MapKept.run_setObj_map _ h2,Result.andThen]
  ·rw[Array.getElem?_modify] at hi;split at hi
   ·rename_i hji;subst hji;rw[f2] at hi;simp only[Option.map_some,sI7] at hi;subst hi;have hlt:j<es.length:=(List.getElem?_eq_some_iff.1 f4).1;rw[List.getElem?_set_self hlt] at hp;simp only[sI7] at hp;subst hp;exact⟨hkv.step hS,hvv.step hS⟩
   ·rename_i hji;rw[List.getElem?_set_ne hji] at hp;obtain⟨x,y⟩:=h3.2 i e' p hi hp;exact⟨x.step hS,y.step hS⟩
  ·rw[Array.getElem?_modify] at hi;split at hi
   ·rename_i hji;subst hji;rw[f2] at hi;simp only[Option.map_some,sI7] at hi;subst hi;exact h4.2 j e f2
   ·exact h4.2 i e' hi
end
mutual
def nref:AV->Bool
 |.any=>true
 |.bool _=>true
 |.int _ _=>true
 |.str _=>true
 |.nilptr=>true
 |.vptr _=>true
 |.nil=>true
 |.empty=>true
 |.view _ _ _=>true
 |.nilmap=>true
 |.vmap _ _=>true
 |.nilfunc=>true
 |.nilIface=>true
 |.iface _ v=>nref v
 |.agg l=>nrefL l
 |.tuple l=>nrefL l
 |.func _ l=>nrefL l
 |_=>false
def nrefL:List AV->Bool
 |[]=>true
 |u::l=>nref u && nrefL l
end
theorem wgs:∀ {l:List AV},nrefL l=true->∀(j:Nat) u,l[j]?=some u->nref u=true
 |[],_,j,u,h=>by simp at h
 |x::l,hl,0,u,h=>by simp[nrefL] at hl h;subst h;exact hl.1
 |x::l,hl,j+1,u,h=>by simp only[nrefL,bA7] at hl;exact wgs hl.2 j u (by simpa using h)
theorem V.free{w w':World}{M M':Nat->Prop}(far:∀b,b<w.heap.size->¬ M b->¬ M' b)(heap:∀b,b<w.heap.size->¬ M b->w'.heap[b]?=w.heap[b]?)(size:w.heap.size<=w'.heap.size)
  {bs:Nat->Option Hd} {v:Value} {u:AV} (h:V w M bs v u) (bs':Nat->Option Hd):nref u=true->V w' M' bs' v u:=by
 have st:∀ {bs0:Nat->Option Hd} {v:Value} {u:AV},V w M bs0 v u->V w' M' bs0 v u:=λh=>h.step_ far heap size _ λ_ _ h=>h
 induction h with
 |any=>exact λ_=>.any
 |bool=>exact λ_=>.bool
 |int=>exact λ_=>.int
 |str h=>exact λ_=>.str h
 |nilptr=>exact λ_=>.nilptr
 |ptr h=>intro hn;simp[nref] at hn
 |eptr h=>intro hn;simp[nref] at hn
 |@vptr bs ad g cv hM hb hc h1 hv ih=>
  exact λ_=>.vptr cv (far _ hb hM) (Nat.lt_of_lt_of_le hb size) (λj hj=>(wly (by rw[wd5];exact heap _ hb hM)).trans (hc j hj)) h1 λj u hu=>st (hv j u hu)
 |nil=>exact λ_=>.nil
 |empty=>exact λ_=>.empty
 |@view bs A n c sz f ad cv hn hcm hA hl hc h1 hv ih=>
  intro _;refine .view ad cv hn hcm (λh0=>?_) hl (λi hi j hj=>?_) h1 λi hi j u hu=>st (hv i hi j u hu)
  ·obtain⟨e,hM,hb⟩:=hA h0;exact⟨e,far _ hb hM,Nat.lt_of_lt_of_le hb size⟩
  ·obtain⟨e,hM,hb⟩:=hA (by omega);exact(wly (by rw[wd5];exact heap _ hb hM)).trans (hc i hi j hj)
 |own h hn hcm=>intro hn;simp[nref] at hn
 |ownnil h hn=>intro hn;simp[nref] at hn
 |sub h hn hcm hA=>intro hn;simp[nref] at hn
 |subnil h hn ho=>intro hn;simp[nref] at hn
 |nilmap=>exact λ_=>.nilmap
 |vmap hM hb hm hn hk hv ihk ihv=>exact λ_=>.vmap (far _ hb hM) (Nat.lt_of_lt_of_le hb size) ((heap _ hb hM).trans hm) hn (λi e u h1 h2=>st (hk i e u h1 h2)) (λi e u h1 h2=>st (hv i e u h1 h2))
 |map h=>intro hn;simp[nref] at hn
 |func hl hv ih=>
  intro hn;simp only[nref] at hn;exact .func hl λj v u h1 h2=>ih j v u h1 h2 (wgs hn j u h2)
 |nilfunc=>exact λ_=>.nilfunc
 |nilIface=>exact λ_=>.nilIface
 |iface h ih=>intro hn;simp only[nref] at hn;exact .iface (ih hn)
 |agg hl h1 hv ih=>
  intro hn;simp only[nref] at hn;exact .agg hl h1 λj v u h1 h2=>ih j v u h1 h2 (wgs hn j u h2)
 |tuple hl hv ih=>
  intro hn;simp only[nref] at hn;exact .tuple hl λj v u h1 h2=>ih j v u h1 h2 (wgs hn j u h2)
def frz(r sz n:Nat)(f:Nat->List AV):AV->AV
 |.own r' n'=>match Nat.beq r' r && Nat.ble n' n with
  |true=>.view sz n' f
  |false=>.own r' n'
 |u=>u
end Go.Eng
namespace Go.Eng
open Go.RowKit
theorem nob_of{bs:Nat->Option Hd}(h:∀r,bs r=none):bs=nob:=funext λr=>h r
theorem waw.below{C:Ctx}[hC:C.Loose]{f:FuncId}{args:List AV}{u:AV}(he:wjm C.P f)
  (h:∀(w:World) (M:Nat->Prop) (cargs:List Value),C.laid w->C.gsz<=w.heap.size->(∀b,M b->b<w.heap.size)->cargs.length=args.length->(∀(j:Nat) v x,cargs[j]?=some v->args[j]?=some x->V w M nob v x)->
   Calls C.P f cargs.toArray w λe w'=>∃v,e= .returned v/\Below w.heap.size w w'/\V w' M nob v u):waw C f args [] λu' O=>u'=u/\O=[]:=by
 refine⟨he,λE bs w cargs h1 h2 h3 h4 h5 h6 h7=>?_⟩;have hb:bs=nob:=nob_of λr=>h5 r (zL7 _);subst hb;have hl:lkL []=lk ([]:List (Nat×AObj)):=by funext r;simp[lkL,lk]
 rw[hl] at h4 h7;refine(h w (MB E (lk []) nob) cargs h4.laid (Nat.le_trans h4.gle h4.size) (λb hb=>?_) h6 h7).mono ?_
 ·rcases hb with hb | ⟨r,o,c,ho,_⟩
  ·exact Nat.lt_of_lt_of_le (h4.outlt b hb) h4.size
  ·simp[lk] at ho
 ·rintro e w' ⟨v,rfl,hB,hV⟩;refine⟨v,u,[],nob,rfl,⟨rfl,rfl⟩,?_,hV,λr _=>⟨rfl,rfl⟩⟩
  exact {
   obj:=λr o ho=>by simp[lk] at ho
   sep:=λr _ o _ _ _ _ ho=>by simp[lk] at ho
   out:=h4.out
   frz:=λr _ _ _ _ _ _ ho=>by simp[lk] at ho
   high:=h4.high
   lt:=λr b c hb=>by simp[nob] at hb
   outlt:=h4.outlt
   keep:=λb hb hm=>(hB.block b (Nat.lt_of_lt_of_le hb h4.size)).trans (h4.keep b hb hm)
   old:=h4.old
   size:=Nat.le_trans h4.size hB.size
   pre:=h4.pre
   os:=hB.os.trans h4.os
   tape:=TL.trans ⟨hB.tape,λh=>by rw[hC.cnt] at h;cases h⟩ h4.tape
   output:=hB.output.trans h4.output
   laid:=C.keep w w' (λb hb=>hB.block b (Nat.lt_of_lt_of_le hb (Nat.le_trans h4.gle h4.size))) h4.laid
   gle:=h4.gle }
theorem V.str_iff{w:World}{M:Nat->Prop}{bs:Nat->Option Hd}{v:Value}{s:List UInt8}(h:V w M bs v (.str s)):v= .string ⟨s.toArray⟩:=by
 cases h with | str h=>
 rename_i b;subst h
 cases b;simp
theorem V.int_iff{w:World}{M:Nat->Prop}{bs:Nat->Option Hd}{v:Value}{k:IntKind}{n:Int}(h:V w M bs v (.int k n)):v= .int k n:=by cases h;rfl
theorem V.newview{w:World}{M:Nat->Prop}{bs:Nat->Option Hd}(hM:∀b,M b->b<w.heap.size){vs:Array Value}{t:TypeId}{n:Nat}{f:Nat->List AV}(hn:vs.size=n)(hm:n<=maxLen)(ho:∀(i:Nat) (v:Value),vs[i]?=some v->v.oneCell'=true)
  (hv:∀(i:Nat) (v:Value),vs[i]?=some v->∃u,f i=[u]/\V (w.alloc (.cells vs t)) M nob v u):V (w.alloc (.cells vs t)) M bs (.slice (some ⟨w.heap.size,0,none⟩) n n) (.view 1 n f):=by
 have hh:(w.alloc (.cells vs t)).heap[w.heap.size]?=some (.cells vs t (0,0)):=heap_alloc_new w _;have hsz:w.heap.size<(w.alloc (.cells vs t)).heap.size:=(Array.getElem?_eq_some_iff.1 hh).1;refine .view ⟨w.heap.size,0,none⟩ (λi _=>vs.getD i undef) (lR7 _) hm (λ_=>⟨rfl,λh=>Nat.lt_irrefl _ (hM _ h),hsz⟩) (λi hi=>?_) (λi hi j hj=>?_) (λi hi j hj=>?_) λi hi j u hu=>?_
 ·obtain⟨u,hu,_⟩:=hv i _ (Array.getElem?_eq_getElem (show i<vs.size by omega));simp[hu]
 ·have hi':i<vs.size:=by omega
  have hj':j=0:=by omega
  subst hj';rw[Addr.add_lit,cell_of_row _ _ _ vs t (0,0) hh];simp[hi']
 ·have hi':i<vs.size:=by omega
  exact ho i _ (by simp[hi'])
 ·have hi':i<vs.size:=by omega
  obtain⟨x,hx,hV⟩:=hv i _ (Array.getElem?_eq_getElem hi');rw[hx] at hu
  cases j with
  |zero=>simp at hu;subst hu;simpa[hi'] using hV
  |succ j=>simp at hu
def wbp(s:List UInt8)(i:Nat):Nat×Nat:=Utf8.decode ⟨s.toArray⟩ i
section
variable {C:Ctx} {N:Nat} {o:Oper} {T:Nat->Option AV} {O:Nat->Option AObj} {k:Nat}
theorem wtl{P:Program}{w:World}{b:Nat}{s:ByteArray}{p:Nat}(h:w.heap[b]?=some (.stringIter s p)):(getObj b).run P w= .ok (.stringIter s p) w:=by simp[getObj,Sem.run,h]
theorem wy0{P:Program}{w:World}{b:Nat}{s:ByteArray}{p:Nat}(o:Obj)(h:w.heap[b]?=some (.stringIter s p)):(setObj b o).run P w= .ok () { w with heap:=w.heap.setIfInBounds b o }:=by simp[setObj,Sem.run,h]
theorem wao.nextIn{x:Operand}{r pos:Nat}{s:List UInt8}(hop:o.op= .next x true)(hd:wa4 N o.dst=true)(hx:evO T x=some (.ptr r 0))(hO:O r=some (.siter s pos))(hp:pos<s.length):
  wao C N o T O k (.tuple [.bool true,.int .i64 pos,.int .i32 (wbp s pos).1]) [(r,.siter s (pos+(wbp s pos).2))]:=by
 intro E T' O' bs a w K Q hT hOs hr hf hK;have hxv:=wa6 hr.1 (wa7 hT hx);have hOr:=hOs _ _ hO;obtain⟨b,c,bytes,h1,h2,h3⟩:=hr.2.obj r _ hOr;generalize hxx:a.eval x=xv at hxv
 cases hxv with | ptr hbr=>
 rw[h1] at hbr;injection hbr with hbr;injection hbr with e1 e2;subst e1;subst e2;have hbytes:bytes=⟨s.toArray⟩:=by cases bytes;simp only[ByteArray.mk.injEq];subst h3;simp
 have hsz:pos<bytes.size:=by subst hbytes;simpa[ByteArray.size] using hp
 obtain⟨g1,g2⟩:=MapKept.heap_set (o':=.stringIter bytes (pos+(wbp s pos).2)) h2;have hrun:(execOp a.eval o).run C.P w= .ok (.value (.tuple #[.bool true,.int .i64 pos,.int .i32 (wbp s pos).1])) { w with heap:=w.heap.setIfInBounds b (.stringIter bytes (pos+(wbp s pos).2)) }:=by
  have e:Utf8.decode bytes pos=wbp s pos:=by rw[hbytes];rfl
  simp only[execOp,hop,hxx,Instr.next,Sem.run_bind,wtl h2,Result.andThen_ok,hsz,if_true,e,wy0 _ h2,Sem.run_pure,goInt]
 unfold Oper.wp;rw[hrun]
 obtain⟨hS,hW⟩:=hr.2.modify (x:=r) (o:=.siter s (pos+(wbp s pos).2)) hOr rfl h1 (w':={ w with heap:=w.heap.setIfInBounds b (.stringIter bytes (pos+(wbp s pos).2)) }) (λb' hb'=>g2 b' hb') (by simp) rfl ⟨rfl,λ_=>lR7 _⟩ rfl rfl
  (λhS=>⟨b,c,bytes,h1,g1,h3⟩)
 refine hK bs _ _ (λ_ _=>rfl) ⟨(hr.1.step hS).putF hd ?_,hW⟩;refine .tuple rfl λj v u hv hu=>?_
 match j with
 |0=>simp at hv hu;subst hv;subst hu;exact .bool
 |1=>simp at hv hu;subst hv;subst hu;exact .int
 |2=>simp at hv hu;subst hv;subst hu;exact .int
 |j+3=>simp at hv
theorem wao.nextOut{x:Operand}{r pos:Nat}{s:List UInt8}(hop:o.op= .next x true)(hd:wa4 N o.dst=true)(hx:evO T x=some (.ptr r 0))(hO:O r=some (.siter s pos))(hp:¬ pos<s.length):
  wao C N o T O k (.tuple [.bool false]) []:=by
 intro E T' O' bs a w K Q hT hOs hr hf hK;have hxv:=wa6 hr.1 (wa7 hT hx);have hOr:=hOs _ _ hO;obtain⟨b,c,bytes,h1,h2,h3⟩:=hr.2.obj r _ hOr;generalize hxx:a.eval x=xv at hxv
 cases hxv with | ptr hbr=>
 rw[h1] at hbr;injection hbr with hbr;injection hbr with e1 e2;subst e1;subst e2;have hbytes:bytes=⟨s.toArray⟩:=by cases bytes;simp only[ByteArray.mk.injEq];subst h3;simp
 have hsz:¬ pos<bytes.size:=by subst hbytes;simpa[ByteArray.size] using hp
 have hrun:(execOp a.eval o).run C.P w= .ok (.value (.tuple #[.bool false])) w:=by
  simp only[execOp,hop,hxx,Instr.next,Sem.run_bind,wtl h2,Result.andThen_ok,hsz,if_false,Sem.run_pure]
 unfold Oper.wp;rw[hrun];refine hK bs _ _ (λ_ _=>rfl) ⟨hr.1.putF hd ?_,hr.2⟩;refine .tuple rfl λj v u hv hu=>?_
 match j with
 |0=>simp at hv hu;subst hv;subst hu;exact .bool
 |j+1=>simp at hv
end
theorem waw.quiet{C:Ctx}{f:FuncId}{args:List AV}{objs:List AObj}{u:AV}(he:wjm C.P f)
  (h:∀(E:Ent) (bs:Nat->Option Hd) (w:World) (cargs:List Value),WRep C E (lkL objs) bs w->cargs.length=args.length->(∀(j:Nat) v x,cargs[j]?=some v->args[j]?=some x->V w (MB E (lkL objs) bs) bs v x)->
   Calls C.P f cargs.toArray w λe w'=>∃v,e= .returned v/\w'=w/\V w (MB E (lkL objs) bs) bs v u):waw C f args objs λu' O=>u'=u/\O=enum 0 objs:=by
 refine⟨he,λE bs w cargs h1 h2 h3 h4 h5 h6 h7=>?_⟩;refine(h E bs w cargs h4 h6 h7).mono ?_;rintro e w' ⟨v,rfl,rfl,hV⟩;have hO:lk (enum 0 objs)=lkL objs:=by funext i;rw[wit];simp[lkL]
 refine⟨v,u,enum 0 objs,bs,rfl,⟨rfl,rfl⟩,by rw[hO];exact h4,by rw[hO];exact hV,λr hr=>⟨?_,h5 r (by omega)⟩⟩;rw[hO];simp[lkL];omega
mutual
theorem wts(ρ:Nat->Option Nat):∀(u:AV),nref u=true->u.rn ρ=u
 |.any,_=>rfl
 |.bool _,_=>rfl
 |.int _ _,_=>rfl
 |.str _,_=>rfl
 |.nilptr,_=>rfl
 |.vptr _,_=>rfl
 |.nil,_=>rfl
 |.empty,_=>rfl
 |.view _ _ _,_=>rfl
 |.nilmap,_=>rfl
 |.vmap _ _,_=>rfl
 |.nilfunc,_=>rfl
 |.nilIface,_=>rfl
 |.iface t v,h=>by simp only[nref] at h;simp only[AV.rn,wts ρ v h]
 |.agg l,h=>by simp only[nref] at h;simp only[AV.rn,rnL_nref ρ l h]
 |.tuple l,h=>by simp only[nref] at h;simp only[AV.rn,rnL_nref ρ l h]
 |.func f l,h=>by simp only[nref] at h;simp only[AV.rn,rnL_nref ρ l h]
 |.ptr _ _,h=>by simp[nref] at h
 |.eptr _ _ _ _,h=>by simp[nref] at h
 |.own _ _,h=>by simp[nref] at h
 |.sub _ _ _ _,h=>by simp[nref] at h
 |.map _,h=>by simp[nref] at h
theorem rnL_nref(ρ:Nat->Option Nat):∀(l:List AV),nrefL l=true->AV.rnL ρ l=l
 |[],_=>rfl
 |u::l,h=>by
  simp only[nrefL,bA7] at h;simp only[AV.rnL,wts ρ u h.1,rnL_nref ρ l h.2]
end
theorem WRep.cell{C:Ctx}{E:Ent}{O:Nat->Option AObj}{bs:Nat->Option Hd}{w:World}(hW:WRep C E O bs w){r:Nat}{cs:List AV}{t:TypeId}(hO:O r=some (.cells cs t)){v:Value}(hv:V w (MB E O bs) bs v (.ptr r 0)){j:Nat}{u:AV}(hu:cs[j]?=some u):
  ∃b x,v= .pointer (some ⟨b,0,none⟩)/\w.cell? ⟨b,j,none⟩=some x/\V w (MB E O bs) bs x u:=by
 obtain⟨b,c,vs,h1,h2,h3,h4,h5⟩:=hW.obj r _ hO
 cases hv with | ptr hb=>
 rw[h1] at hb;injection hb with hb;injection hb with e1 e2;subst e1;subst e2;have hj:j<vs.size:=by rw[h3];exact(List.getElem?_eq_some_iff.1 hu).1
 refine⟨b,vs[j],rfl,?_,h5 j _ u (Array.getElem?_eq_getElem hj) hu⟩;rw[cell_of_row w b j vs t (0,0) h2];simp[hj]
end Go.Eng
namespace Go.Eng
theorem ws0:∀(cs xs:List AV),cs.length=xs.length->wcp cs 0 xs=some xs
 |[],[],_=>rfl
 |c::cs,x::xs,h=>by
  have:=ws0 cs xs (by simpa using h);simp[wcp,this]
 |[],_::_,h=>by simp at h
 |_::_,[],h=>by simp at h
section
variable {C:Ctx} {N:Nat} {o:Oper} {T:Nat->Option AV} {O:Nat->Option AObj} {k:Nat} {te:TE}
theorem wao.allocW(hte:TE.ok C.P te){t:TypeId}{ti:TI}{zs:List AV}(ht:lk te t=some ti)(hop:o.op= .alloc t)(hd:wa4 N o.dst=true)(hz:avcs ti.zero.cells.toList=some zs):wao C N o T O k (.ptr k 0) [(k,.cells zs t)]:=by
 refine wao.eff hte (vc:=True) ?_ hd trivial;rw[hop];simp only[wb2,wh7,ht,hz]
theorem wao.storeW(hte:TE.ok C.P te){t tt:TypeId}{ti:TI}{x y:Operand}{r:Nat}{cs new:List AV}(ht:lk te t=some ti)(hop:o.op= .store t x y)(hd:wa4 N o.dst=true)(hx:evO T x=some (.ptr r 0))(hy:evO T y=some (.agg new))(hO:O r=some (.cells cs tt))
  (hl:cs.length=new.length) (hs:new.length=ti.sz):wao C N o T O k .any [(r,.cells new tt)]:=by
 refine wao.eff hte (vc:=new.length=ti.sz) ?_ hd hs;rw[hop];simp only[wb2,hx,hy,ht,wd3,hO,ws0 cs new hl]
end
end Go.Eng
namespace Go.Eng
open Go.WideShapes
def keq0:AV->AV->Bool
 |.str a,.str b=>decide (a=b)
 |.int k a,.int k' b=>decide (k=k') && decide (a=b)
 |_,_=>false
def keqL:List AV->List AV->Bool
 |[],[]=>true
 |x::xs,y::ys=>keq0 x y && keqL xs ys
 |_,_=>false
def wbl(te:TE):Nat->List Field->List AV->Bool
 |_,[],[]=>true
 |i,f::fs,c::cs=>Nat.beq f.offset i && (match lk te f.type with
   |some tf=>isK tf.desc c
   |none=>false) && wbl te (i+1) fs cs
 |_,_,_=>false
def keyA(te:TE)(kt:TypeId):AV->Bool
 |.agg cs=>match lk te kt with
  |some tk=>match tk.desc with
   |.struct fs=>tk.cmp && wbl te 0 fs.toList cs
   |_=>false
  |none=>false
 |_=>false
theorem wf2{d:TypeDesc}{a:AV}(h:isK d a=true):(d= .string/\∃s,a= .str s)∨∃k n,d= .int k/\a= .int k n:=by
 unfold isK at h;split at h
 ·exact .inl ⟨rfl,_,rfl⟩
 ·have:=of_decide_eq_true h;subst this;exact .inr ⟨_,_,rfl,rfl⟩
 ·cases h
theorem wf1{d:TypeDesc}{a b:AV}(ha:isK d a=true)(hb:isK d b=true):keq0 a b=true↔a=b:=by
 rcases wf2 ha with⟨rfl,s,rfl⟩ | ⟨k,n,rfl,rfl⟩
 ·rcases wf2 hb with⟨_,s',rfl⟩ | ⟨k',n',h,rfl⟩
  ·simp[keq0]
  ·cases h
 ·rcases wf2 hb with⟨h,s',rfl⟩ | ⟨k',n',h,rfl⟩
  ·cases h
  ·cases h;simp[keq0]
theorem wgo{te:TE}{i:Nat}{fs:List Field}{c:AV}{cs:List AV}(h:wbl te i fs (c::cs)=true):∃f fs' tf,fs=f::fs'/\f.offset=i/\lk te f.type=some tf/\isK tf.desc c=true/\wbl te (i+1) fs' cs=true:=by
 cases fs with
 |nil=>simp[wbl] at h
 |cons f fs'=>
  simp only[wbl,bA7] at h;obtain⟨⟨h1,h2⟩,h3⟩:=h;split at h2
  ·rename_i tf htf;exact⟨f,fs',tf,rfl,Nat.eq_of_beq_eq_true h1,htf,h2,h3⟩
  ·cases h2
theorem wia{te:TE}{i:Nat}{fs:List Field}(h:wbl te i fs []=true):fs=[]:=by
 cases fs with
 |nil=>rfl
 |cons f fs=>simp[wbl] at h
theorem wgw{te:TE}:∀ {fs:List Field} {i:Nat} {xs ys:List AV},wbl te i fs xs=true->wbl te i fs ys=true->(keqL xs ys=true↔xs=ys)
 |fs,i,[],ys,h1,h2=>by
  have:=wia h1;subst this
  cases ys with
  |nil=>simp[keqL]
  |cons y ys=>simp[wbl] at h2
 |fs,i,x::xs,[],h1,h2=>by
  have:=wia h2;subst this;simp[wbl] at h1
 |fs,i,x::xs,y::ys,h1,h2=>by
  obtain⟨f,fs',tf,rfl,_,htf,hk,h3⟩:=wgo h1;obtain⟨f2,fs2,tf2,e,_,htf2,hk2,h4⟩:=wgo h2;simp only[List.cons.injEq] at e;obtain⟨rfl,rfl⟩:=e;rw[htf] at htf2;obtain rfl:=oJ7 htf2;simp only[keqL,bA7,wf1 hk hk2,wgw h3 h4,List.cons.injEq]
theorem wrv{te:TE}{d:Nat}{t:TypeId}{tf:TI}{a b:AV}(ht:lk te t=some tf)(ha:isK tf.desc a=true)(hb:isK tf.desc b=true):eqA te (d+1) t [a] [b]=some (keq0 a b):=by
 simp only[eqA,ht]
 rcases wf2 ha with⟨hd,s,rfl⟩ | ⟨k,n,hd,rfl⟩
 ·rw[hd] at hb ⊢
  rcases wf2 hb with⟨_,s',rfl⟩ | ⟨k',n',h,rfl⟩
  ·rfl
  ·cases h
 ·rw[hd] at hb ⊢
  rcases wf2 hb with⟨h,s',rfl⟩ | ⟨k',n',h,rfl⟩
  ·cases h
  ·cases h;simp[keq0]
theorem wgy{d:TypeDesc}{a:AV}(h:isK d a=true):wa2 d=false:=by
 rcases wf2 h with⟨rfl,_⟩ | ⟨_,_,rfl,_⟩<;>rfl
theorem wwk{te:TE}{d:Nat}(hn:∀t ti,lk te t=some ti->wa2 ti.desc=false->ti.sz=1){xs ys:List AV}:∀(fs:List Field) (i:Nat),wbl te i fs (xs.drop i)=true->wbl te i fs (ys.drop i)=true->
  wek (eqA te (d+1)) te xs ys fs=some (keqL (xs.drop i) (ys.drop i))
 |fs,i,h1,h2=>by
  cases hx:xs.drop i with
  |nil=>
   rw[hx] at h1;have:=wia h1;subst this
   cases hy:ys.drop i with
   |nil=>rfl
   |cons y ys'=>rw[hy] at h2;simp[wbl] at h2
  |cons x xs'=>
   rw[hx] at h1;obtain⟨f,fs',tf,rfl,hoff,htf,hk,h3⟩:=wgo h1
   cases hy:ys.drop i with
   |nil=>rw[hy] at h2;simp[wbl] at h2
   |cons y ys'=>
    rw[hy] at h2;obtain⟨f2,fs2,tf2,e,_,htf2,hk2,h4⟩:=wgo h2;simp only[List.cons.injEq] at e;obtain⟨rfl,rfl⟩:=e;rw[htf] at htf2;obtain rfl:=oJ7 htf2;have hs:=hn _ _ htf (wgy hk);have tx:wcg tf.sz (wb4 f.offset xs)=some [x]:=by rw[hs,wc7,hoff,hx];rfl
    have ty:wcg tf.sz (wb4 f.offset ys)=some [y]:=by rw[hs,wc7,hoff,hy];rfl
    have dx:xs.drop (i+1)=xs':=by rw[← List.drop_drop,hx];rfl
    have dy:ys.drop (i+1)=ys':=by rw[← List.drop_drop,hy];rfl
    have e1:=wrv (d:=d) htf hk hk2;have ih:=wwk (d:=d) hn fs' (i+1) (by rw[dx];exact h3) (by rw[dy];exact h4);rw[dx,dy] at ih
    cases fs' with
    |nil=>
     have nx:xs'=[]:=by
      cases xs' with
      |nil=>rfl
      |cons _ _=>simp[wbl] at h3
     have ny:ys'=[]:=by
      cases ys' with
      |nil=>rfl
      |cons _ _=>simp[wbl] at h4
     subst nx;subst ny;simp only[wek,htf,tx,ty,e1,keqL,Bool.and_true]
    |cons g gs=>
     simp only[wek,htf,tx,ty,e1] at ih ⊢;rw[ih];simp only[keqL]
theorem wel{te:TE}{kt:TypeId}(hn:∀t ti,lk te t=some ti->wa2 ti.desc=false->ti.sz=1){xs ys:List AV}(h1:keyA te kt (.agg xs)=true)(h2:keyA te kt (.agg ys)=true):
  ∃tk fs,lk te kt=some tk/\tk.desc= .struct fs/\tk.cmp=true/\wbl te 0 fs.toList xs=true/\wbl te 0 fs.toList ys=true/\eqA te 8 kt xs ys=some (keqL xs ys):=by
 simp only[keyA] at h1 h2;split at h1
 ·rename_i tk htk;rw[htk] at h2;simp only at h2;split at h1
  ·rename_i fs hfs;rw[hfs] at h2;simp only[bA7] at h1 h2;refine⟨tk,fs,htk,hfs,h1.1,h1.2,h2.2,?_⟩;simp only[eqA,htk,hfs,h1.1];exact wwk (d:=6) hn fs.toList 0 h1.2 h2.2
  ·cases h1
 ·cases h1
section
variable {P:Program} {te:TE} {w:World} {M:Nat->Prop} {bs:Nat->Option Hd}
theorem wgd{v:Value}{cs:List AV}(h:V w M bs v (.agg cs)):∃vs:Array Value,v= .agg vs/\vs.size=cs.length/\(∀(j:Nat) (x:Value),vs[j]?=some x->x.oneCell'=true)/\∀(j:Nat) x u,vs[j]?=some x->cs[j]?=some u->V w M bs x u:=by
 cases h with | agg hl h1 hv=>exact⟨_,rfl,hl,h1,hv⟩
theorem wib:∀ {fs:List Field} {i:Nat} {cs:List AV},wbl te i fs cs=true->∀(j:Nat) f,fs[j]?=some f->∃tf c,lk te f.type=some tf/\f.offset=i+j/\cs[j]?=some c/\isK tf.desc c=true
 |fs,i,[],h,j,f,hf=>by
  have:=wia h;subst this;simp at hf
 |fs,i,c::cs,h,j,f,hf=>by
  obtain⟨f0,fs',tf,rfl,hoff,htf,hk,h3⟩:=wgo h
  cases j with
  |zero=>
   simp at hf;subst hf;exact⟨tf,c,htf,by omega,by simp,hk⟩
  |succ j=>
   obtain⟨tf',c',q1,q2,q3,q4⟩:=wib h3 j f (by simpa using hf);exact⟨tf',c',q1,by omega,by simpa using q3,q4⟩
theorem wjy:∀ {fs:List Field} {i:Nat} {cs:List AV},wbl te i fs cs=true->fs.length=cs.length
 |fs,i,[],h=>by rw[wia h];rfl
 |fs,i,c::cs,h=>by
  obtain⟨f0,fs',tf,rfl,hoff,htf,hk,h3⟩:=wgo h;simp[wjy h3]
theorem wvb{fs:List Field}{vs us:Array Value}{cs ds:List AV}(h1:wbl te 0 fs cs=true)(h2:wbl te 0 fs ds=true)(s1:vs.size=cs.length)(V1:∀(j:Nat) x u,vs[j]?=some x->cs[j]?=some u->V w M bs x u)
  (s2:us.size=ds.length) (V2:∀(j:Nat) x u,us[j]?=some x->ds[j]?=some u->V w M bs x u):vs=us↔cs=ds:=by
 have l1:=wjy h1;have l2:=wjy h2;have cell:∀j,j<cs.length->∀(hv:j<vs.size) (hu:j<us.size),(vs[j]=us[j]↔cs[j]?=ds[j]?):=by
  intro j hj hv hu;obtain⟨tf,c,q1,_,q3,q4⟩:=wib h1 j fs[j] (List.getElem?_eq_getElem (by omega));obtain⟨tf',c',q1',_,q3',q4'⟩:=wib h2 j fs[j] (List.getElem?_eq_getElem (by omega));rw[q1] at q1';obtain rfl:=oJ7 q1';have:=wf3 (V1 j _ _ (Array.getElem?_eq_getElem hv) q3) (V2 j _ _ (Array.getElem?_eq_getElem hu) q3') q4 q4';rw[this,q3,q3'];simp
 constructor
 ·rintro rfl;apply List.ext_getElem?;intro j
  by_cases hj:j<cs.length
  ·exact(cell j hj (by omega) (by omega)).1 rfl
  ·rw[List.getElem?_eq_none (by omega),List.getElem?_eq_none (by omega)]
 ·rintro rfl;apply Array.ext
  ·omega
  ·intro j hv hu;exact(cell j (by omega) hv hu).2 rfl
theorem wlx(hte:TE.ok P te)(hn:∀t ti,lk te t=some ti->wa2 ti.desc=false->ti.sz=1){kt:TypeId}{cs:List AV}{v:Value}(hk:keyA te kt (.agg cs)=true)(hV:V w M bs v (.agg cs))(em:Bool):(Instr.checkKey em 10000 kt v).run P w= .ok () w:=by
 obtain⟨tk,fs,htk,hfs,hcmp,hs,_,_⟩:=wel hn hk hk;obtain⟨vs,rfl,s1,o1,V1⟩:=wgd hV;have hu:P.underlying kt=some (.struct fs):=by rw[(hte kt tk htk).1,hfs]
 have hb:=((hte kt tk htk).2.2 hcmp).2.2 fs hfs;have each : ∀f ∈ fs.toList, f.name ≠ "_" /\ ∃v, (part f.type vs f.offset).run P w = .ok v w /\ (Instr.checkKey em 9999 f.type v).run P w = .ok () w := by
  intro f hf;refine⟨hb f hf,?_⟩;obtain⟨j,hj⟩:=List.getElem?_of_mem hf;obtain⟨tf,c,q1,q2,q3,q4⟩:=wib hs j f hj;have hs1:=hn _ _ q1 (wgy q4);have hjl:j<cs.length:=(List.getElem?_eq_some_iff.1 q3).1;have tx:wcg tf.sz (wb4 f.offset cs)=some [c]:=by
   rw[hs1,wc7,q2,Nat.zero_add,List.drop_eq_getElem_cons hjl];have:cs[j]=c:=(List.getElem?_eq_some_iff.1 q3).2;rw[this];rfl
  obtain⟨v,hv,cv⟩:=weu hte q1 (hn _ _ q1) s1 o1 V1 tx;rw[wgy q4] at cv;obtain⟨u,e,hVu⟩:=cv;simp only[List.cons.injEq,and_true] at e;subst e;exact⟨v,hv,MapKept.run_checkKey (hte _ _ q1).1 (wdu hVu q4) em 9998⟩
 rw[show (10000:Nat)=9999+1 from rfl,Instr.checkKey];simp only[Sem.run_bind,run_underlying hu,Result.andThen_ok];rw[← Array.forIn_toList];generalize fs.toList=L at each
 induction L with
 |nil=>simp
 |cons f L ih=>
  obtain⟨hne,v,p1,p2⟩:=each f (by simp);simp only[List.forIn_cons,if_pos hne,Sem.run_bind,Result.andThen_ok,p1,p2,Sem.run_pure];exact ih λy hy=>each y (by simp[hy])
theorem wju{te:TE}{kt:TypeId}{cs:List AV}{v:Value}(hn:∀t ti,lk te t=some ti->wa2 ti.desc=false->ti.sz=1)(hk:keyA te kt (.agg cs)=true)(hV:V w M bs v (.agg cs)):(Instr.keyThatStays v v).run P w= .ok v w:=by
 obtain⟨tk,fs,htk,hfs,hcmp,hs,_,_⟩:=wel hn hk hk;obtain⟨vs,rfl,s1,o1,V1⟩:=wgd hV;have l1:=wjy hs;have hb:Instr.sameBits 10000 (.agg vs) (.agg vs)=true:=by
  rw[show (10000:Nat)=9999+1 from rfl,Instr.sameBits];simp only[beq_self_eq_true,Bool.true_and];rw[List.all_eq_true];intro p hp;obtain⟨j,hj⟩:=List.getElem?_of_mem hp;rw[List.getElem?_zip_eq_some] at hj;obtain⟨q1,q2⟩:=hj;have e:p.1=p.2:=by rw[q1] at q2;exact oJ7 q2
  have hjl:j<vs.size:=by
   have:=(List.getElem?_eq_some_iff.1 q1).1;simpa using this
  obtain⟨tf,c,_,_,q3,q4⟩:=wib hs j fs.toList[j] (List.getElem?_eq_getElem (by omega));have hVc:=V1 j p.1 c (by simpa using q1) q3;obtain⟨a,b⟩:=p;simp only at e hVc;subst e;exact MapKept.sameBits_self (wdu hVc q4) 9999
 simp[Instr.keyThatStays,hb]
theorem wlg(hte:TE.ok P te)(hn:∀t ti,lk te t=some ti->wa2 ti.desc=false->ti.sz=1){kt:TypeId}{ks:List AV}{kv:Value}(hk:keyA te kt (.agg ks)=true)(hV:V w M bs kv (.agg ks)):∀(ents:List MapEntry) (es:List (AV×AV)) (i:Nat),
  ents.length=es.length->(∀(j:Nat) (e:MapEntry) (p:AV×AV),ents[j]?=some e->es[j]?=some p->V w M bs e.key p.1/\V w M bs e.val p.2)->(es.all λp=>keyA te kt p.1)=true->
  ((Instr.findAsking kt kv ents i).run P w= .ok none w/\∀p∈es,p.1≠ .agg ks)∨∃(j:Nat) (e:MapEntry) (v:AV),(Instr.findAsking kt kv ents i).run P w= .ok (some (i+j,e.val)) w/\ents[j]?=some e/\e.key=kv/\es[j]?=some (.agg ks,v)/\V w M bs e.val v
 |[],[],i,_,_,_=>.inl ⟨by simp[Instr.findAsking],λp hp=>by simp at hp⟩
 |[],_::_,_,h,_,_=>by simp at h
 |_::_,[],_,h,_,_=>by simp at h
 |e::ents,p::es,i,hl,hE,hall=>by
  simp only[List.all_cons,bA7] at hall;obtain⟨v1,v2⟩:=hE 0 e p rfl rfl;obtain⟨pk,pv⟩:=p
  cases pk with
  |agg ps=>
   obtain⟨tk,fs,htk,hfs,hcmp,h1,h2,heq⟩:=wel hn hk hall.1;obtain⟨vs,rfl,s1,o1,V1⟩:=wgd hV;obtain⟨us,hus,s2,o2,V2⟩:=wgd v1;have hag:wa2 tk.desc=true:=by rw[hfs];rfl
   have run:(Op.equal kt (.agg vs) e.key).run P w= .ok (keqL ks ps) w:=
    wg6 hte hn 8 9992 kt tk _ _ ks ps _ htk (by rw[hag];exact⟨vs,rfl,s1,o1,V1⟩) (by rw[hag];exact⟨us,hus,s2,o2,V2⟩) heq
   cases hb:keqL ks ps with
   |true=>
    rw[hb] at run;have e1:=(wgw h1 h2).1 hb;subst e1;have e2:vs=us:=(wvb h1 h2 s1 V1 s2 V2).2 rfl;subst e2;exact .inr ⟨0,e,pv,by simp[Instr.findAsking,run],rfl,hus,rfl,v2⟩
   |false=>
    rw[hb] at run;have hne:ks≠ps:=λe=>by rw[(wgw h1 h2).2 e] at hb;cases hb
    rcases wlg hte hn hk hV ents es (i+1) (by simpa using hl) (λj e' p' q1 q2=>hE (j+1) e' p' (by simpa using q1) (by simpa using q2)) hall.2 with⟨q1,q2⟩ | ⟨j,e',v,q1,q2,q3,q4,q5⟩
    ·refine .inl ⟨by simp[Instr.findAsking,run,q1],λp hp=>?_⟩
     rcases List.mem_cons.1 hp with rfl | hp
     ·intro e';injection e' with e';exact hne e'.symm
     ·exact q2 p hp
    ·exact .inr ⟨j+1,e',v,by simp[Instr.findAsking,run,q1];omega,by simpa using q2,q3,by simpa using q4,q5⟩
  |_=>simp[keyA] at hall
end
end Go.Eng
