/- The engine, part 22: a region that draws its order: the rule. -/
import Derived.Test.YtmcdngcjakjnmaaGreatDoorJve
namespace Go.Eng
def putF(d:Option Tmp)(u:AV)(T:Nat->Option AV):Nat->Option AV:=match d with
 |some d=>up T d u
 |none=>T
theorem wku(d:Option Tmp)(u:AV)(T:List (Nat×AV)):lk (putT d u T)=putF d u (lk T):=by
 cases d with
 |none=>rfl
 |some d=>
  show lk ((d,u)::rm d T)=up (lk T) d u;rw[wfw,wkt]
theorem FRep.putF{w:World}{M:Nat->Prop}{bs:Nat->Option Hd}{N:Nat}{T:Nat->Option AV}{a:Act}(h:FRep w M bs N T a){d:Option Tmp}(hd:wa4 N d=true){v:Value}{u:AV}(hv:V w M bs v u):FRep w M bs N (putF d u T) (a.put d v):=by
 cases d with
 |none=>exact h
 |some d=>
  have hd':d<N:=by simpa[wa4,Nat.blt_eq] using hd
  obtain⟨h0,h1,h2⟩:=h;refine⟨by simpa[Act.put] using h0,by simpa[Act.put] using h1,λi x hx=>?_⟩;have hx':up T d u i=some x:=hx
  by_cases hi:d=i
  ·subst hi;rw[was] at hx';simp only[sI7] at hx';subst hx';exact⟨v,by simp[Act.put,h1,hd'],hv⟩
  ·rw[waq _ _ _ hi] at hx';obtain⟨y,hy,hyv⟩:=h2 i x hx';exact⟨y,by simp[Act.put,Array.getElem?_setIfInBounds_ne hi,hy],hyv⟩
def wao(C:Ctx)(N:Nat)(o:Oper)(T:Nat->Option AV)(O:Nat->Option AObj)(k:Nat)(u:AV)(l:List (Nat×AObj)):Prop:=
 ∀(E:Ent) (T':Nat->Option AV) (O':Nat->Option AObj) (bs:Nat->Option Hd) (a:Act) (w:World) (K:Act->World->Prop) (Q:Exit->Act->World->Prop),Sub T T'->Sub O O'->Rep C E N T' O' bs a w->
  (∀r,k<=r->r<k+16->O' r=none/\bs r=none)->
  (∀bs' a' w',(∀r,¬ (k<=r/\r<k+16)->bs' r=bs r)->Rep C E N (putF o.dst u T') (upL O' l) bs' a' w'->K a' w')->o.wp C.P a w K Q
theorem wpy(O:Nat->Option AObj):∀(l:List (Nat×AObj)) (r:Nat),upL O l r=(lk l r).or (O r)
 |[],r=>by simp[upL,lk]
 |(j,x)::l,r=>by
  simp only[upL,up,wa0,wpy O l r];split<;>simp
section
variable {C:Ctx} {N:Nat} {o:Oper} {T:Nat->Option AV} {O:Nat->Option AObj} {k:Nat} {te:TE}
theorem wao.pure(hte:TE.ok C.P te)(hn:∀t ti,lk te t=some ti->wa2 ti.desc=false->ti.sz=1){u:AV}{vc:Prop}(h:wb1 te T O o.op=some (u,vc))(hd:wa4 N o.dst=true)(hvc:vc):wao C N o T O k u []:=by
 intro E T' O' bs a w K Q hT hO hr hf hK;obtain⟨v,h1,h2⟩:=wwb hte hn hr.2 hr.1 (wi5 hT hO h) hvc;unfold Oper.wp;rw[h1];exact hK bs _ _ (λ_ _=>rfl) ⟨hr.1.putF hd h2,hr.2⟩
theorem wao.eff(hte:TE.ok C.P te){u:AV}{l:List (Nat×AObj)}{vc:Prop}(h:wb2 te T O k o.op=some (u,l,vc))(hd:wa4 N o.dst=true)(hvc:vc):wao C N o T O k u l:=by
 intro E T' O' bs a w K Q hT hO hr hf hK;obtain⟨h0,h0'⟩:=hf k (lR7 _) (by omega);obtain⟨nx,v,w',bs',h1,h2,h3,h4,h5,h6⟩:=wwc hte hr.2 hr.1 h0 h0' (wlk hT hO h) hvc;have hbs:∀r,¬ (k<=r/\r<k+16)->bs' r=bs r:=λr hr=>h3 r (by omega);unfold Oper.wp;rw[h1]
 rcases h2 with rfl | ⟨rfl,rfl⟩
 ·exact hK bs' _ _ hbs ⟨(hr.1.step h4).putF hd h6,h5⟩
 ·exact hK bs' _ _ hbs ⟨(hr.1.step h4).putF hd h6,h5⟩
def wcf(ρ:Nat->Option Nat)(O:Nat->Option AObj):List Nat->List AObj->Prop
 |[],[]=>True
 |r::l,o'::l'=>(∃o,O r=some o/\o.mut=true/\OLe ρ o o')/\wcf ρ O l l'
 |_,_=>False
theorem wcf.len{ρ:Nat->Option Nat}{O:Nat->Option AObj}:∀ {l:List Nat} {l':List AObj},wcf ρ O l l'->l.length=l'.length
 |[],[],_=>rfl
 |_::l,_::l',h=>by simp[wcf.len h.2]
 |[],_::_,h=>h.elim
 |_::_,[],h=>h.elim
theorem wcf.get{ρ:Nat->Option Nat}{O:Nat->Option AObj}:∀ {l:List Nat} {l':List AObj},wcf ρ O l l'->∀(j r:Nat) (o':AObj),l[j]?=some r->l'[j]?=some o'->∃o,O r=some o/\o.mut=true/\OLe ρ o o'
 |[],[],_,j,r,o',h,_=>by simp at h
 |x::l,y::l',h,0,r,o',h1,h2=>by simp at h1 h2;subst h1;subst h2;exact h.1
 |x::l,y::l',h,j+1,r,o',h1,h2=>wcf.get h.2 j r o' (by simpa using h1) (by simpa using h2)
 |[],_::_,h,_,_,_,_,_=>h.elim
 |_::_,[],h,_,_,_,_,_=>h.elim
theorem wcf.sub{ρ:Nat->Option Nat}{O O':Nat->Option AObj}(hs:Sub O O'):∀ {l:List Nat} {l':List AObj},wcf ρ O l l'->wcf ρ O' l l'
 |[],[],_=>trivial
 |_::_,_::_,⟨⟨o,h1,h2⟩,h⟩=>⟨⟨o,hs _ _ h1,h2⟩,wcf.sub hs h⟩
 |[],_::_,h=>h.elim
 |_::_,[],h=>h.elim
theorem wao.call{fo:Operand}{args:Array Operand}{at_:Array TypeId}{f:FuncId}{cap as:List AV}{cobjs:List AObj}{R:AV->List (Nat×AObj)->Prop}(pass:List Nat){u2:AV}{O2:List (Nat×AObj)}
   (hop:o.op= .call { callee:=.value fo,args:=args,argTypes:=at_ }) (hd:wa4 N o.dst=true) (hf:evO T fo=some (.func f cap)) (ha:evL T args.toList=some as)
   (hnd:pass.Nodup) (hO:wcf (idxN pass) O pass cobjs) (hc:waw C f (AV.rnL (idxN pass) (as++cap)) cobjs R)
   (hR:∀u O',R u O'->u.rn (sig pass k)=u2/\wbs (sig pass k) O' O2):
   wao C N o T O k u2 (O2++deads pass):=by
 intro E1 T' S' bs a w K Q hT hOs hr hfr hK;obtain⟨hF,hW⟩:=hr;have hF0:=hF;replace hf:=wa7 hT hf;replace ha:=wi6 hT ha;replace hO:=hO.sub hOs;have hlen:=hO.len;have hpl:∀(j r:Nat),pass[j]?=some r->¬ (k<=r/\r<k+16)/\∃o,S' r=some o/\o.mut=true:=by
   intro j r hj;have hj':j<cobjs.length:=by rw[← hlen];exact(List.getElem?_eq_some_iff.1 hj).1
   obtain⟨ob,h1,h2,_⟩:=hO.get j r _ hj (List.getElem?_eq_getElem hj');refine⟨?_,ob,h1,h2⟩;intro h;rw[(hfr r h.1 h.2).1] at h1;cases h1
 have hbsome:∀r ob,S' r=some ob->ob.mut=true->∃h,bs r=some h:=by
   intro r ob h1 h2;have:=hW.obj r ob h1
   cases ob with
   |cells cs t=>obtain⟨b,c,_,h,_⟩:=this;exact⟨_,h⟩
   |row t sz n f fr=>rcases this with⟨h,_⟩ | ⟨b,c,_,h,_⟩<;>exact⟨_,h⟩
   |amap es=>obtain⟨b,c,_,_,h,_⟩:=this;exact⟨_,h⟩
   |siter l p=>obtain⟨b,c,_,h,_⟩:=this;exact⟨_,h⟩
   |miter m n l=>obtain⟨b,c,_,_,_,h,_⟩:=this;exact⟨_,h⟩
   |rmap es j v=>obtain⟨b,c,_,_,h,_⟩:=this;exact⟨_,h⟩
   |dead=>simp[AObj.mut] at h2
 -- the callee's side
 let bs0:Nat->Option Hd:=λj=>(pass[j]?).bind bs
 let M1:=MB E1 (S') bs
 let E:Ent:={ w0:=w,m:=cobjs.length,bs0:=bs0,mut0:=mutB (lkL cobjs) bs0,outer:=λb=>M1 b/\¬ mutB (lkL cobjs) bs0 b }
 have hmo:∀(j r:Nat) (o':AObj),pass[j]?=some r->cobjs[j]?=some o'->o'.mut=true:=λj r o' h1 h2=>by
   obtain⟨ob,h3,h4,h5⟩:=hO.get j r o' h1 h2;rw[← h5.mut];exact h4
 have m0:∀b,mutB (lkL cobjs) bs0 b->∃(j r:Nat) (ob:AObj) (c:Nat),pass[j]?=some r/\S' r=some ob/\ob.mut=true/\bs r=some (.blk b c):=by
   rintro b ⟨j,o',c,h1,h2,h3⟩;have hj:j<pass.length:=by rw[hlen];exact(List.getElem?_eq_some_iff.1 h1).1
   have hp:=List.getElem?_eq_getElem hj;obtain⟨ob,h4,h5,_⟩:=hO.get j _ o' hp h1;refine⟨j,_,ob,c,hp,h4,h5,?_⟩;simpa[bs0,hp] using h3
 have m0':∀b,mutB (lkL cobjs) bs0 b->mutB (S') bs b:=λb h=>by
   obtain⟨j,r,ob,c,h1,h2,h3,h4⟩:=m0 b h;exact⟨r,ob,c,h2,h3,h4⟩
 have hM0:∀b,MB E (lkL cobjs) bs0 b↔M1 b:=λb=>by
   constructor
   · rintro(h | h)
     · exact h.1
     · exact .inr (m0' b h)
   · intro h
     by_cases hm:mutB (lkL cobjs) bs0 b
     · exact .inr hm
     · exact .inl ⟨h,hm⟩
 have hρ:∀r k x,idxN pass r=some k->bs r=some x->bs0 k=some x:=λr k x hr hx=>by
   show (pass[k]?).bind bs=some x;rw[wiz pass r k hr];exact hx
 have ρat:∀(j r:Nat),pass[j]?=some r->idxN pass r=some j:=by
   intro j r hj;have hex:∀(l:List Nat) (j:Nat),l[j]?=some r->∃k,idxN l r=some k:=by
     intro l
     induction l with
     |nil=>intro j h;simp at h
     |cons d l ih=>
       intro j h;simp only[idxN];split
       · exact⟨_,rfl⟩
       · rename_i hne
         cases j with
         |zero=>simp at h;subst h;simp[Nat.beq_refl] at hne
         |succ j=>
           obtain⟨k,hk⟩:=ih j (by simpa using h);rw[hk];exact⟨_,rfl⟩
   obtain⟨k,hk⟩:=hex pass j hj;have hk':=wiz pass r k hk;have:k=j:=by
     exact(List.getElem?_inj (List.getElem?_eq_some_iff.1 hk').1 hnd).1 (hk'.trans hj.symm)
   rw[hk,this]
 have vin:∀ {v:Value} {u:AV},V w M1 bs v u->V w (MB E (lkL cobjs) bs0) bs0 v (u.rn (idxN pass)):=λh=>
   (h.rn (idxN pass) bs0 hρ).step_ (λb _ hb hb'=>hb ((hM0 b).1 hb')) (λ_ _ _=>rfl) (lR7 _) _ λ_ _ hh=>hh
 have hW0:WRep C E (lkL cobjs) bs0 w:={
   obj:=λj o' ho=>by
     have hj:j<pass.length:=by rw[hlen];exact(List.getElem?_eq_some_iff.1 ho).1
     have hp:=List.getElem?_eq_getElem hj;obtain⟨ob,h4,h5,h6⟩:=hO.get j _ o' hp ho;exact(h6.ok hρ (ρat j _ hp) (hW.obj _ _ h4)).step ⟨λ_ _ h=>h,λb _ hb hb'=>hb ((hM0 b).1 hb'),λ_ _ _=>rfl,lR7 _⟩ λ_ _ _=>rfl
   sep:=λj j' o1 o2 b c c' h1 h2 n1 n2 b1 b2=>by
     have hj:j<pass.length:=by rw[hlen];exact(List.getElem?_eq_some_iff.1 h1).1
     have hj':j'<pass.length:=by rw[hlen];exact(List.getElem?_eq_some_iff.1 h2).1
     have hp:=List.getElem?_eq_getElem hj;have hp':=List.getElem?_eq_getElem hj';obtain⟨q1,h4,h5,_⟩:=hO.get j _ o1 hp h1;obtain⟨q2,h4',h5',_⟩:=hO.get j' _ o2 hp' h2;have:=hW.sep _ _ q1 q2 b c c' h4 h4' h5 h5' (by simpa[bs0,hp] using b1) (by simpa[bs0,hp'] using b2);exact(List.getElem?_inj hj hnd).1 (by rw[hp,hp',this])
   out:=λb hb ho=>ho.2 hb
   frz:=λj t sz n f b c ho hb=>by
     have hj:j<pass.length:=by rw[hlen];exact(List.getElem?_eq_some_iff.1 ho).1
     have:=hmo j _ _ (List.getElem?_eq_getElem hj) ho;simp[AObj.mut] at this
   high:=λb hb=>hW.high b ((hM0 b).1 hb)
   lt:=λj b c hb=>by
     show b<w.heap.size
     cases hp:pass[j]? with
     |none=>simp[bs0,hp] at hb
     |some r=>exact hW.lt r b c (by simpa[bs0,hp] using hb)
   outlt:=λb hb=>by
     show b<w.heap.size
     rcases hb.1 with h | ⟨r,ob,c,_,_,h⟩
     · exact Nat.lt_of_lt_of_le (hW.outlt b h) hW.size
     · exact hW.lt r b c h
   keep:=λb _ _=>rfl
   old:=λb hb=>.inl hb
   size:=lR7 _
   pre:=λr h _ hb=>hb
   os:=rfl
   tape:=.refl _ _
   output:=rfl
   laid:=hW.laid
   gle:=Nat.le_trans hW.gle hW.size }
 have hsf:=wa6 hF hf;obtain⟨hal,hav⟩:=wll hF _ _ ha;generalize hfe:a.eval fo=vf at hsf
 cases hsf with
 |func hcl hcv=>
   rename_i caps;have hcall:=hc.2 E bs0 w ((args.toList.map a.eval)++caps.toList) rfl rfl rfl hW0 (λr hr=>by
       show (pass[r]?).bind bs=none;rw[List.getElem?_eq_none (by omega)];rfl)
     (by rw[wev,lA7,lA7,hal];show _+caps.size=_;rw[hcl])
     (λj v u hv hu=>by
       rw[wew] at hu;obtain⟨u',hu',rfl⟩:=Option.map_eq_some_iff.1 hu;refine vin ?_
       rcases Nat.lt_or_ge j as.length with hj | hj
       · rw[List.getElem?_append_left (by rw[hal];exact hj)] at hv;rw[List.getElem?_append_left hj] at hu';exact hav j v u' hv hu'
       · rw[List.getElem?_append_right (by rw[hal];exact hj),hal] at hv;rw[List.getElem?_append_right hj] at hu';exact hcv _ v u' (by simpa using hv) hu')
   have hrun:(execOp a.eval o).run C.P w= .ok (.enter f ((args.toList.map a.eval)++caps.toList).toArray) w:=by
     have e:((args.toList.map a.eval)++caps.toList).toArray=args.map a.eval++caps:=by
       apply Array.toList_inj.1;simp
     rw[e];simp only[execOp,hop,resolve,hfe,Deferred.ofValue,Sem.run_bind,Sem.run_pure,Result.andThen_ok,invoke,Array.empty_append];exact wtm hc.1 _ w
   unfold Oper.wp;rw[hrun,Oper.upon_enter];refine hcall.mono ?_;rintro e w' ⟨v,u,O',bs',rfl,hRR,hW',hV',hfr'⟩;obtain⟨rfl,hOB⟩:=hR u O' hRR
   -- the caller's side, behind the call
   let bs2:Nat->Option Hd:=λr=>if k<=r/\r<k+16 then bs' (r - k+pass.length) else bs r
   have lt16:∀j o',lk O' j=some o'->j<pass.length+16:=λj o' h=>by
     rcases Nat.lt_or_ge j (pass.length+16) with hh | hh
     · exact hh
     · rw[(hfr' j (by rw[← hlen];exact hh)).1] at h;cases h
   have lt16':∀j x,bs' j=some x->j<pass.length+16:=λj x h=>by
     rcases Nat.lt_or_ge j (pass.length+16) with hh | hh
     · exact hh
     · rw[(hfr' j (by rw[← hlen];exact hh)).2] at h;cases h
   let S3:Nat->Option AObj:=upL S' (O2++deads pass)
   have lk3:∀r,S3 r=((lk O2 r).or (lk (deads pass) r)).or (S' r):=λr=>by
     show upL S' (O2++deads pass) r=_;rw[wpy,wcx]
   have hold:∀(j r:Nat),pass[j]?=some r->bs' j=bs r:=by
     intro j r hj;obtain⟨_,ob,h1,h2⟩:=hpl j r hj;obtain⟨h,hh⟩:=hbsome r ob h1 h2;rw[hh];refine hW'.pre j h ?_ ?_
     · show j<cobjs.length;rw[← hlen];exact(List.getElem?_eq_some_iff.1 hj).1
     · show (pass[j]?).bind bs=some h;rw[hj];exact hh
   have sigb:∀(j r:Nat),j<pass.length+16->sig pass k j=some r->bs2 r=bs' j:=by
     intro j r hj16 hj;unfold sig at hj;split at hj
     · rename_i r' hp;simp only[sI7] at hj;subst hj;show (if k<=r'/\r'<k+16 then _ else bs r')=bs' j
       rw[if_neg (hpl j r' hp).1,hold j r' hp]
     · rename_i hp;simp only[sI7] at hj;subst hj;have:pass.length<=j:=List.getElem?_eq_none_iff.1 hp;show (if k<=k+(j - pass.length)/\k+(j - pass.length)<k+16 then bs' (k+(j - pass.length) - k+pass.length) else _)=bs' j
       rw[if_pos (by omega)];congr 1;omega
   have hσ:∀j r x,sig pass k j=some r->bs' j=some x->bs2 r=some x:=λj r x hj hx=>by rw[sigb j r (lt16' j x hx) hj];exact hx
   -- where an object of the new table comes from
   have cases3:∀r o2,S3 r=some o2->(∃j o',sig pass k j=some r/\lk O' j=some o'/\OLe (sig pass k) o' o2)∨o2= .dead∨(r ∉ pass/\S' r=some o2):=by
     intro r o2 h;rw[lk3,wq4] at h
     cases hx:lk O2 r with
     |some y=>
       rw[hx] at h;simp only[Option.some_or,sI7] at h;subst h;exact .inl (hOB.get r y hx)
     |none=>
       rw[hx] at h;simp only[Option.none_or] at h;split at h
       · simp only[Option.some_or,sI7] at h;exact .inr (.inl h.symm)
       · rename_i hnp;exact .inr (.inr ⟨hnp,by simpa using h⟩)
   have oldnx:∀r ob,S' r=some ob->¬ (k<=r/\r<k+16):=by
     intro r ob h hh;rw[(hfr r hh.1 hh.2).1] at h;cases h
   have oldmut:∀r ob b c,r ∉ pass->S' r=some ob->ob.mut=true->bs r=some (.blk b c)->¬ mutB (lkL cobjs) bs0 b:=by
     intro r ob b c hnp h1 h2 h3 hm;obtain⟨j,r',ob',c',p1,p2,p3,p4⟩:=m0 b hm;have:=hW.sep r r' ob ob' b c c' h1 p2 h2 p3 h3 p4;subst this;exact hnp (List.mem_of_getElem? p1)
   have mut3:∀b,mutB S3 bs2 b->mutB (lk O') bs' b∨(mutB (S') bs b/\¬ mutB (lkL cobjs) bs0 b):=by
     rintro b ⟨r,o2,c,h1,h2,h3⟩
     rcases cases3 r o2 h1 with⟨j,o',q1,q2,q3⟩ | rfl | ⟨q1,q2⟩
     · exact .inl ⟨j,o',c,q2,by rw[q3.mut];exact h2,by rw[← sigb j r (lt16 j o' q2) q1];exact h3⟩
     · simp[AObj.mut] at h2
     · have hlt:=oldnx r o2 q2;have h3':bs r=some (.blk b c):=by
         have:bs2 r=bs r:=if_neg hlt;rw[← this];exact h3
       exact .inr ⟨⟨r,o2,c,q2,h2,h3'⟩,oldmut r o2 b c q1 q2 h2 h3'⟩
   have hM2:∀b,MB E1 S3 bs2 b->MB E (lk O') bs' b:=by
     rintro b (h | h)
     · exact .inl ⟨.inl h,λhm=>hW.out b (m0' b hm) h⟩
     · rcases mut3 b h with h | ⟨h,hn⟩
       · exact .inr h
       · exact .inl ⟨.inr h,hn⟩
   have hM3:∀b,b<w.heap.size->MB E (lk O') bs' b->M1 b:=by
     rintro b hb (h | h)
     · exact h.1
     · rcases hW'.old b h with h | h
       · exact .inr (m0' b h)
       · have:w.heap.size<=b:=h;omega
   have heap_:∀b,b<w.heap.size->¬ mutB (lkL cobjs) bs0 b->w'.heap[b]?=w.heap[b]?:=λb hb hn=>hW'.keep b hb hn;have bs_:∀r h,bs r=some h->bs2 r=some h:=by
     intro r h hh;have hlt:¬ (k<=r/\r<k+16):=λhh'=>by
       rw[(hfr r hh'.1 hh'.2).2] at hh;cases hh
     have:bs2 r=bs r:=if_neg hlt;rw[this];exact hh
   have hS:Step w M1 bs w' (MB E1 S3 bs2) bs2:=
     ⟨bs_,λb hb hn h=>hn (hM3 b hb (hM2 b h)),λb hb hn=>heap_ b hb λhm=>hn (.inr (m0' b hm)),hW'.size⟩
   have hSV:∀ {v:Value} {u:AV},V w' (MB E (lk O') bs') bs' v u->V w' (MB E1 S3 bs2) bs2 v (u.rn (sig pass k)):=λh=>
     (h.rn (sig pass k) bs2 hσ).step_ (λb _ hb hb'=>hb (hM2 b hb')) (λ_ _ _=>rfl) (lR7 _) _ λ_ _ hh=>hh
   have hW2:WRep C E1 S3 bs2 w':={
     obj:=λr o2 ho=>by
       rcases cases3 r o2 ho with⟨j,o',q1,q2,q3⟩ | rfl | ⟨q1,q2⟩
       · exact(q3.ok hσ q1 (hW'.obj j o' q2)).step ⟨λ_ _ h=>h,λb _ hb hb'=>hb (hM2 b hb'),λ_ _ _=>rfl,lR7 _⟩ λ_ _ _=>rfl
       · trivial
       · by_cases hdd:o2= .dead
         · subst hdd;trivial
         refine(hW.obj r o2 q2).step hS λb c hb=>heap_ b (hW.lt r b c hb) ?_
         cases hmm:o2.mut with
         |true=>exact oldmut r o2 b c q1 q2 hmm hb
         |false=>
           intro hm
           cases o2 with
           |row t sz n f fr=>
             have:fr=true:=by simpa[AObj.mut] using hmm
             subst this;exact hW.frz r t sz n f b c q2 hb (.inr (m0' b hm))
           |dead=>exact hdd rfl
           |_=>simp[AObj.mut] at hmm
     sep:=λr r' o1 o2 b c c' h1 h2 n1 n2 b1 b2=>by
       have mem:∀r o2 b c,S3 r=some o2->o2.mut=true->bs2 r=some (.blk b c)->(∃j o',sig pass k j=some r/\lk O' j=some o'/\o'.mut=true/\bs' j=some (.blk b c))∨(r ∉ pass/\S' r=some o2/\bs r=some (.blk b c)):=by
         intro r o2 b c h1 h2 h3
         rcases cases3 r o2 h1 with⟨j,o',q1,q2,q3⟩ | rfl | ⟨q1,q2⟩
         · exact .inl ⟨j,o',q1,q2,by rw[q3.mut];exact h2,by rw[← sigb j r (lt16 j o' q2) q1];exact h3⟩
         · simp[AObj.mut] at h2
         · have:bs2 r=bs r:=if_neg (oldnx r o2 q2);exact .inr ⟨q1,q2,by rw[← this];exact h3⟩
       have clash:∀j o' r ob b c c',lk O' j=some o'->o'.mut=true->bs' j=some (.blk b c)->r ∉ pass->S' r=some ob->ob.mut=true->bs r=some (.blk b c')->False:=by
         intro j o' r ob b c c' h1 h2 h3 h4 h5 h6 h7
         rcases hW'.old b ⟨j,o',c,h1,h2,h3⟩ with h | h
         · exact oldmut r ob b c' h4 h5 h6 h7 h
         · have hlt:=hW.lt r b c' h7;have:w.heap.size<=b:=h;omega
       rcases mem r o1 b c h1 n1 b1 with⟨j,o',q1,q2,q3,q4⟩ | ⟨q1,q2,q3⟩
       · rcases mem r' o2 b c' h2 n2 b2 with⟨j',o'',p1,p2,p3,p4⟩ | ⟨p1,p2,p3⟩
         · have:=hW'.sep j j' o' o'' b c c' q2 p2 q3 p3 q4 p4;subst this;rw[q1] at p1;injection p1
         · exact(clash j o' r' o2 b c c' q2 q3 q4 p1 p2 n2 p3).elim
       · rcases mem r' o2 b c' h2 n2 b2 with⟨j',o'',p1,p2,p3,p4⟩ | ⟨p1,p2,p3⟩
         · exact(clash j' o'' r o1 b c' c p2 p3 p4 q1 q2 n1 q3).elim
         · exact hW.sep r r' o1 o2 b c c' q2 p2 n1 n2 q3 p3
     out:=λb hb ho=>by
       rcases mut3 b hb with h | ⟨h,_⟩
       · exact hW'.out b h ⟨.inl ho,λhm=>hW.out b (m0' b hm) ho⟩
       · exact hW.out b h ho
     frz:=λr t sz n f b c ho hb hM=>by
       rcases cases3 r _ ho with⟨j,o',q1,q2,q3⟩ | h | ⟨q1,q2⟩
       · cases o'<;>simp only[OLe] at q3;obtain⟨rfl,rfl,rfl,rfl,_⟩:=q3;exact hW'.frz j _ _ _ _ b c q2 (by rw[← sigb j r (lt16 j _ q2) q1];exact hb) (hM2 b hM)
       · cases h
       · have e:bs2 r=bs r:=if_neg (oldnx r _ q2);have hb':bs r=some (.blk b c):=by rw[← e];exact hb
         exact hW.frz r t sz n f b c q2 hb' (hM3 b (hW.lt r b c hb') (hM2 b hM))
     high:=λb hb=>hW'.high b (hM2 b hb)
     lt:=λr b c hb=>by
       by_cases hlt:¬ (k<=r/\r<k+16)
       · have e:bs2 r=bs r:=if_neg hlt;exact Nat.lt_of_lt_of_le (hW.lt r b c (by rw[← e];exact hb)) hW'.size
       · have e:bs2 r=bs' (r - k+pass.length):=if_pos (Classical.not_not.1 hlt);exact hW'.lt _ b c (by rw[← e];exact hb)
     outlt:=hW.outlt
     keep:=λb hb hm=>by
       have hlt:b<w.heap.size:=Nat.lt_of_lt_of_le hb hW.size;rw[heap_ b hlt (λh=>?_)]
       · exact hW.keep b hb hm
       · rcases hW.old b (m0' b h) with h | h
         · exact hm h
         · omega
     old:=λb hb=>by
       rcases mut3 b hb with h | ⟨h,_⟩
       · rcases hW'.old b h with h | h
         · exact hW.old b (m0' b h)
         · right;exact Nat.le_trans hW.size h
       · exact hW.old b h
     size:=Nat.le_trans hW.size hW'.size
     pre:=λr h hr hb=>bs_ r h (hW.pre r h hr hb)
     os:=hW'.os.trans hW.os
     tape:=hW'.tape.trans hW.tape
     output:=hW'.output.trans hW.output
     laid:=hW'.laid
     gle:=hW.gle }
   exact hK bs2 _ _ (λr hr=>if_neg hr) ⟨(hF.step hS).putF hd (hSV hV'),hW2⟩
end
structure PEnt where
 want:Bool
 u:AV
 l:List (Nat×AObj)
section
variable (dst:Nat->Option Nat) (us:Nat->AV) (ls:Nat->List (Nat×AObj)) (T0:Nat->Option AV) (O0:Nat->Option AObj)
def getT(D:Nat->Bool):Nat->Nat->Option AV
 |0,d=>T0 d
 |n+1,d=>if D n=true/\dst n=some d then some (us n) else getT D n d
def getO(D:Nat->Bool):Nat->Nat->Option AObj
 |0,r=>O0 r
 |n+1,r=>if D n=true then (lk (ls n) r).or (getO D n r) else getO D n r
theorem wi1{D D':Nat->Bool}{d:Nat}:∀ {n:Nat},(∀j,j<n->dst j=some d->D j=D' j)->getT dst us T0 D n d=getT dst us T0 D' n d
 |0,_=>rfl
 |n+1,h=>by
  simp only[getT];rw[wi1 (λj hj=>h j (by omega))]
  by_cases hd:dst n=some d
  ·rw[h n (by omega) hd]
  ·simp[hd]
theorem wvq{D:Nat->Bool}{i d:Nat}(hi:D i=false):∀ {n:Nat},i<n->(∀j,i<j->j<n->D j=true->dst j=some d->dst i≠some d)->
  getT dst us T0 (λj=>D j || j==i) n d=if dst i=some d then some (us i) else getT dst us T0 D n d
 |0,h,_=>by omega
 |n+1,h,hl=>by
  simp only[getT]
  by_cases hin:n=i
  ·subst hin;rw[wi1 dst us T0 (D:=λj=>D j || j==n) (D':=D) (n:=n) (λj hj _=>by simp;omega)];simp[hi]
  ·rw[wvq hi (by omega) (λj h1 h2=>hl j h1 (by omega))];have:(n==i)=false:=by simpa using hin
   simp only[this,Bool.or_false]
   by_cases hc:D n=true/\dst n=some d
   ·have:=hl n (by omega) (by omega) hc.1 hc.2;simp[hc,this]
   ·simp[hc]
theorem wi2{D D':Nat->Bool}{r:Nat}:∀ {n:Nat},(∀j,j<n->lk (ls j) r≠none->D j=D' j)->getO ls O0 D n r=getO ls O0 D' n r
 |0,_=>rfl
 |n+1,h=>by
  simp only[getO];rw[wi2 (λj hj=>h j (by omega))]
  by_cases hd:lk (ls n) r=none
  ·simp[hd]
  ·rw[h n (by omega) hd]
theorem wvs{D:Nat->Bool}{i r:Nat}(hi:D i=false):∀ {n:Nat},i<n->(∀j,i<j->j<n->D j=true->lk (ls j) r≠none->lk (ls i) r=none)->
  getO ls O0 (λj=>D j || j==i) n r=(lk (ls i) r).or (getO ls O0 D n r)
 |0,h,_=>by omega
 |n+1,h,hl=>by
  simp only[getO]
  by_cases hin:n=i
  ·subst hin;rw[wi2 ls O0 (D:=λj=>D j || j==n) (D':=D) (n:=n) (λj hj _=>by simp;omega)];simp[hi]
  ·rw[wvs hi (by omega) (λj h1 h2=>hl j h1 (by omega))];have:(n==i)=false:=by simpa using hin
   simp only[this,Bool.or_false]
   by_cases hc:D n=true
   ·simp only[hc,if_true]
    by_cases hn:lk (ls n) r=none
    ·simp[hn]
    ·rw[hl n (by omega) (by omega) hc hn];simp
   ·simp[hc]
theorem wvp {j d : Nat} : ∀ {n : Nat}, j ≤ n → getT dst us T0 (fun x => Nat.blt x j) n d = getT dst us T0 (fun _ => true) j d
  | 0, h => by have : j = 0 := by omega
               subst this; rfl
  | n + 1, h => by
    by_cases hj : j = n + 1
    · subst hj
      exact wi1 dst us T0 (fun x hx _ => by simp [Nat.blt_eq, hx])
    · have hb : Nat.blt n j = false := by
        cases hb : Nat.blt n j with
        | false => rfl
        | true => rw [Nat.blt_eq] at hb; omega
      rw [← wvp (n := n) (by omega)]
      simp [getT, hb]
theorem wvr {j r : Nat} : ∀ {n : Nat}, j ≤ n → getO ls O0 (fun x => Nat.blt x j) n r = getO ls O0 (fun _ => true) j r
  | 0, h => by have : j = 0 := by omega
               subst this; rfl
  | n + 1, h => by
    by_cases hj : j = n + 1
    · subst hj
      exact wi2 ls O0 (fun x hx _ => by simp [Nat.blt_eq, hx])
    · have hb : Nat.blt n j = false := by
        cases hb : Nat.blt n j with
        | false => rfl
        | true => rw [Nat.blt_eq] at hb; omega
      rw [← wvr (n := n) (by omega)]
      simp [getO, hb]
end
def linT:List Oper->List PEnt->List (Nat×AV)->List (Nat×AV)
 |o::l,p::ps,T=>linT l ps (putT o.dst p.u T)
 |_,_,T=>T
def linO:List PEnt->List (Nat×AObj)->List (Nat×AObj)
 |p::ps,O=>linO ps (p.l++O)
 |[],O=>O
def dstF(opl:List Oper)(j:Nat):Option Nat:=match opl[j]? with
 |some o=>o.dst
 |none=>none
def uF(plan:List PEnt)(j:Nat):AV:=match plan[j]? with
 |some p=>p.u
 |none=>.any
def lF(plan:List PEnt)(j:Nat):List (Nat×AObj):=match plan[j]? with
 |some p=>p.l
 |none=>[]
theorem wq5:∀(l:List Oper) (ps:List PEnt) (T:List (Nat×AV)) (o:Oper) (p:PEnt),l.length=ps.length->linT (l++[o]) (ps++[p]) T=putT o.dst p.u (linT l ps T)
 |[],[],T,o,p,_=>rfl
 |_::l,_::ps,T,o,p,h=>by simp only[List.cons_append,linT];exact wq5 l ps _ o p (by simpa using h)
 |[],_::_,_,_,_,h=>by simp at h
 |_::_,[],_,_,_,h=>by simp at h
theorem wq6:∀(ps:List PEnt) (O:List (Nat×AObj)) (p:PEnt),linO (ps++[p]) O=p.l++linO ps O
 |[],O,p=>rfl
 |_::ps,O,p=>by simp only[List.cons_append,linO];exact wq6 ps _ p
theorem wq2(opl:List Oper)(plan:List PEnt)(T0:List (Nat×AV))(hl:opl.length=plan.length):∀j,j<=opl.length->lk (linT (opl.take j) (plan.take j) T0)=getT (dstF opl) (uF plan) (lk T0) (λ_=>true) j
 |0,_=>by funext d;simp[linT,getT]
 |j+1,h=>by
  have h1:j<opl.length:=by omega
  have h2:j<plan.length:=by omega
  rw[List.take_succ_eq_append_getElem h1,List.take_succ_eq_append_getElem h2,wq5 _ _ _ _ _ (by simp;omega),wku,wq2 opl plan T0 hl j (by omega)];funext d;have e1:dstF opl j=opl[j].dst:=by simp[dstF,h1]
  have e2:uF plan j=plan[j].u:=by simp[uF,h2]
  simp only[getT,true_and,e1,e2]
  cases opl[j].dst with
  |none=>simp[putF]
  |some x=>simp[putF,up]
theorem wq3(plan:List PEnt)(O0:List (Nat×AObj)):∀j,j<=plan.length->lk (linO (plan.take j) O0)=getO (lF plan) (lk O0) (λ_=>true) j
 |0,_=>by funext d;simp[linO,getO]
 |j+1,h=>by
  have h2:j<plan.length:=by omega
  rw[List.take_succ_eq_append_getElem h2,wq6];funext r;rw[wcx,wq3 plan O0 j (by omega)];have e2:lF plan j=plan[j].l:=by simp[lF,h2]
  simp[getO,e2]
def hide{α:Type}(h:List Nat)(f:Nat->Option α)(i:Nat):Option α:=match hasN h i with
 |true=>none
 |false=>f i
def wbt(C:Ctx)(N:Nat)(opl:List Oper)(hT hO:List Nat)(k:Nat)(o:Oper)(p:PEnt)(T:List (Nat×AV))(O:List (Nat×AObj)):Prop:=
 ((o.guard=none/\p.want=true)∨(∃d b want,gslot opl o=some (d,want)/\hide hT (lk T) d=some (.bool b)/\(b==want)=p.want)∨∃d want,gslot opl o=some (d,want)/\hide hT (lk T) d=some (.tuple [])/\p.want=false)/\
 ((p.want=true/\wao C N o (hide hT (lk T)) (hide hO (lk O)) k p.u p.l)∨(p.want=false/\p.u= .tuple []/\p.l=[]/\wa4 N o.dst=true))
def DAll(C:Ctx)(N:Nat)(opl:List Oper):Nat->List Oper->List PEnt->List (List Nat×List Nat)->List (Nat×AV)->List (Nat×AObj)->Prop
 |k,o::l,p::ps,h::hs,T,O=>wbt C N opl h.1 h.2 k o p T O/\DAll C N opl (k+16) l ps hs (putT o.dst p.u T) (p.l++O)
 |_,[],[],[],_,_=>True
 |_,_,_,_,_,_=>False
theorem DAll.len{C:Ctx}{N:Nat}{opl:List Oper}:∀ {l:List Oper} {ps:List PEnt} {hs:List (List Nat×List Nat)} {k:Nat} {T:List (Nat×AV)} {O:List (Nat×AObj)},DAll C N opl k l ps hs T O->l.length=ps.length
 |_::_,_::_,_::_,_,_,_,h=>by simp[DAll.len h.2]
 |[],[],[],_,_,_,_=>rfl
 |[],[],_::_,_,_,_,h=>h.elim
 |[],_::_,_,_,_,_,h=>h.elim
 |_::_,[],_,_,_,_,h=>h.elim
 |_::_,_::_,[],_,_,_,h=>h.elim
def hF(hid:List (List Nat×List Nat))(i:Nat):List Nat×List Nat:=match hid[i]? with
 |some h=>h
 |none=>([],[])
theorem DAll.get{C:Ctx}{N:Nat}{opl:List Oper}:∀ {l:List Oper} {ps:List PEnt} {hs:List (List Nat×List Nat)} {k:Nat} {T:List (Nat×AV)} {O:List (Nat×AObj)},DAll C N opl k l ps hs T O->
  ∀(j:Nat) o p,l[j]?=some o->ps[j]?=some p->wbt C N opl (hF hs j).1 (hF hs j).2 (k+16 * j) o p (linT (l.take j) (ps.take j) T) (linO (ps.take j) O)
 |_::_,_::_,_::_,k,T,O,h,0,o,p,h1,h2=>by
  simp at h1 h2;subst h1;subst h2;simpa[linT,linO,hF] using h.1
 |x::l,y::ps,z::hs,k,T,O,h,j+1,o,p,h1,h2=>by
  have:=DAll.get h.2 j o p (by simpa using h1) (by simpa using h2);have e:k+16 * (j+1)=k+16+16 * j:=by omega
  rw[e];simpa[linT,linO,hF] using this
 |[],[],[],_,_,_,_,j,o,p,h1,_=>by simp at h1
 |[],[],_::_,_,_,_,h,_,_,_,_,_=>h.elim
 |[],_::_,_,_,_,_,h,_,_,_,_,_=>h.elim
 |_::_,[],_,_,_,_,h,_,_,_,_,_=>h.elim
 |_::_,_::_,[],_,_,_,h,_,_,_,_,_=>h.elim
def ancF(anc:List (List Nat))(i:Nat):List Nat:=match anc[i]? with
 |some l=>l
 |none=>[]
def aftF(opl:List Oper)(i:Nat):List Edge:=match opl[i]? with
 |some o=>o.after.toList
 |none=>[]
def chkA(opl:List Oper)(anc:List (List Nat))(n:Nat):Bool:=(List.range n).all λi=>
 (ancF anc i).all (λj=>Nat.blt j i && (aftF opl i).any λe=>Region.binds .any e && (Nat.beq e.on j || hasN (ancF anc e.on) j)) && (aftF opl i).all λe=> !Region.binds .any e || Nat.blt e.on i
def dom(plan:List PEnt)(j:Nat):List Nat:=(lF plan j).map Prod.fst
def wdw(opl:List Oper)(plan:List PEnt)(hid:List (List Nat×List Nat))(i j:Nat):Bool:=
 (match dstF opl j with
  |some d=>hasN (hF hid i).1 d
  |none=>true) && (dom plan j).all (hasN (hF hid i).2)
def wlq(opl:List Oper)(i j:Nat):Bool:=match dstF opl i,dstF opl j with
 |some d,some d'=> !Nat.beq d d'
 |_,_=>true
def chkB(opl:List Oper)(plan:List PEnt)(anc:List (List Nat))(hid:List (List Nat×List Nat))(n:Nat):Bool:=(List.range n).all λi=>(List.range i).all λj=>
 hasN (ancF anc i) j || (wlq opl i j && (dom plan i).all (λr=> !hasN (dom plan j) r) && wdw opl plan hid i j && wdw opl plan hid j i)
def chkC(plan:List PEnt)(anc:List (List Nat))(nx n:Nat):Bool:=(List.range n).all λi=>(dom plan i).all λr=>Nat.blt r nx || (i::ancF anc i).any λj=>Nat.ble (nx+16 * j) r && Nat.blt r (nx+16 * j+16)
theorem wfx{α:Type}:∀(l:List (Nat×α)) (r:Nat),lk l r≠none↔r∈l.map Prod.fst
 |[],r=>by simp[lk]
 |p::l,r=>by
  rw[wa0,List.map_cons,List.mem_cons]
  by_cases h:p.1=r
  ·simp[h]
  ·simp only[h,if_false,wfx l r]
   constructor
   ·exact .inr
   ·rintro(h' | h')
    ·exact absurd h'.symm h
    ·exact h'
theorem wkg:∀(n:Nat) (L:List Nat),L.Nodup->(∀i∈L,i<n)->L.length<=n
 |0,L,_,h=>by cases L with
  |nil=>simp
  |cons x l=>have:=h x (by simp);omega
 |n+1,L,hn,h=>by
  have h1:=wkg n (L.erase n) (hn.erase n) λi hi=>by
   have:=(hn.mem_erase_iff.1 hi);have:=h i this.2;omega
  have:=List.length_erase (a:=n) (l:=L);split at this<;>omega
theorem wsp{w:World}{M:Nat->Prop}{bs:Nat->Option Hd}{N:Nat}{T:Nat->Option AV}{a:Act}{o:Oper}{opl:List Oper}(hF:FRep w M bs N T a){d:Nat}{want b:Bool}(hg:gslot opl o=some (d,want))(hT:T d=some (.bool b)):
  Region.wanted o (yielded opl.toArray a.tmps)=(b==want):=by
 unfold gslot at hg;split at hg
 ·rename_i j w hj;split at hg
  ·rename_i x hx;split at hg
   ·rename_i d' hd;simp only[sI7,pI7] at hg;obtain⟨rfl,rfl⟩:=hg;obtain⟨v,hv,hV⟩:=hF.2.2 d' _ hT
    cases hV;simp only[Region.wanted,hj,yielded,List.getElem?_toArray,hx,Option.bind_some,hd];simp only[hv]
    cases b<;>cases w<;>rfl
   ·cases hg
  ·cases hg
 ·cases hg
theorem wxg{w:World}{M:Nat->Prop}{bs:Nat->Option Hd}:V w M bs undef (.tuple []):=.tuple rfl λj v u h=>by simp at h
theorem wso{w:World}{M:Nat->Prop}{bs:Nat->Option Hd}{N:Nat}{T:Nat->Option AV}{a:Act}{o:Oper}{opl:List Oper}(hF:FRep w M bs N T a){d:Nat}{want:Bool}(hg:gslot opl o=some (d,want))(hT:T d=some (.tuple [])):
  Region.wanted o (yielded opl.toArray a.tmps)=false:=by
 unfold gslot at hg;split at hg
 ·rename_i j w hj;split at hg
  ·rename_i x hx;split at hg
   ·rename_i d' hd;simp only[sI7,pI7] at hg;obtain⟨rfl,rfl⟩:=hg;obtain⟨v,hv,hV⟩:=hF.2.2 d' _ hT
    cases hV;simp only[Region.wanted,hj,yielded,List.getElem?_toArray,hx,Option.bind_some,hd,hv];rfl
   ·cases hg
  ·cases hg
 ·cases hg
theorem wvn{α:Type}{h:List Nat}{f g:Nat->Option α}(hs:∀d,hasN h d=false->f d=g d):Sub (hide h f) g:=by
 intro d x hx;unfold hide at hx;split at hx
 ·cases hx
 ·rename_i hh;rw[← hs d hh];exact hx
theorem wrq{ls:Nat->List (Nat×AObj)}{O0:Nat->Option AObj}{D:Nat->Bool}{r:Nat}(h0:O0 r=none):∀ {n:Nat},(∀j,j<n->D j=true->lk (ls j) r=none)->getO ls O0 D n r=none
 |0,_=>h0
 |n+1,h=>by
  simp only[getO];rw[wrq h0 (λj hj=>h j (by omega))];split
  ·rename_i hd;rw[h n (by omega) hd];rfl
  ·rfl
theorem wk9{l:Array Bool}{i:Nat}(h:i<l.size)(d d':Bool):l.getD i d=l.getD i d':=by simp[Array.getD,h]
section
variable {C:Ctx} {N:Nat} {E:Ent} {opl:List Oper} {plan:List PEnt} {anc:List (List Nat)} {hid:List (List Nat×List Nat)} {T0:List (Nat×AV)} {O0:List (Nat×AObj)} {nx:Nat} {Q:Exit->Act->World->Prop}
theorem w5z(hA:chkA opl anc opl.length=true)(hB:chkB opl plan anc hid opl.length=true)(hC:chkC plan anc nx opl.length=true)(hs:DAll C N opl nx opl plan hid T0 O0)(hO0:∀r,nx<=r->lk O0 r=none)
  (hend:∀bs a w,Rep C E N (getT (dstF opl) (uF plan) (lk T0) (λ_=>true) opl.length) (getO (lF plan) (lk O0) (λ_=>true) opl.length) bs a w->(∀r,nx+16 * opl.length<=r->bs r=none)->Q .normal a w):
  ∀(fuel:Nat) (listed:Array Bool) (L:List Nat) (a:Act) (w:World) (bs:Nat->Option Hd),listed.size=opl.length->L.Nodup->L.length+fuel=opl.length->(∀i,listed.getD i false=true↔i∈L)->(∀i∈L,i<opl.length)->
   (∀i∈L,∀j∈ancF anc i,j∈L)->Rep C E N (getT (dstF opl) (uF plan) (lk T0) (λi=>listed.getD i false) opl.length) (getO (lF plan) (lk O0) (λi=>listed.getD i false) opl.length) bs a w->
   (∀r,nx<=r->(∀j∈L,¬ (nx+16 * j<=r/\r<nx+16 * j+16))->bs r=none)->wpAny C.P .any opl.toArray Q fuel listed a w:=by
 have hlen:=hs.len;have A1:∀i,i<opl.length->∀j∈ancF anc i,j<i/\∃e∈aftF opl i,Region.binds .any e=true/\(e.on=j∨j∈ancF anc e.on):=by
  intro i hi j hj;have:=List.all_eq_true.1 hA i (List.mem_range.2 hi);simp only[bA7] at this;have h1:=List.all_eq_true.1 this.1 j hj;simp only[bA7,Nat.blt_eq] at h1;refine⟨h1.1,?_⟩;obtain⟨e,he,hb⟩:=List.any_eq_true.1 h1.2;simp only[bA7,Bool.or_eq_true] at hb;refine⟨e,he,hb.1,?_⟩
  rcases hb.2 with h | h
  ·exact .inl (Nat.eq_of_beq_eq_true h)
  ·exact .inr ((wbj _ _).1 h)
 have A2:∀i,i<opl.length->∀e∈aftF opl i,Region.binds .any e=true->e.on<i:=by
  intro i hi e he hb;have:=List.all_eq_true.1 hA i (List.mem_range.2 hi);simp only[bA7] at this;have h1:=List.all_eq_true.1 this.2 e he;rw[hb] at h1;simpa[Nat.blt_eq] using h1
 have B1:∀i j,i<opl.length->j<i->j∈ancF anc i∨(wlq opl i j=true/\(∀r∈dom plan i,r ∉ dom plan j)/\wdw opl plan hid i j=true/\wdw opl plan hid j i=true):=by
  intro i j hi hj;have:=List.all_eq_true.1 (List.all_eq_true.1 hB i (List.mem_range.2 hi)) j (List.mem_range.2 hj);simp only[Bool.or_eq_true,bA7] at this
  rcases this with h | ⟨⟨⟨h1,h2⟩,h3⟩,h4⟩
  ·exact .inl ((wbj _ _).1 h)
  ·refine .inr ⟨h1,λr hr hr'=>?_,h3,h4⟩;have:=List.all_eq_true.1 h2 r hr;rw[(wbj _ _).2 hr'] at this
   cases this
 have C1:∀i,i<opl.length->∀r,lk (lF plan i) r≠none->r<nx∨∃j,(j=i∨j∈ancF anc i)/\nx+16 * j<=r/\r<nx+16 * j+16:=by
  intro i hi r hr;have:=List.all_eq_true.1 (List.all_eq_true.1 hC i (List.mem_range.2 hi)) r ((wfx _ _).1 hr);simp only[Bool.or_eq_true,Nat.blt_eq] at this
  rcases this with h | h
  ·exact .inl h
  ·obtain⟨j,hj,hb⟩:=List.any_eq_true.1 h;simp only[bA7,Nat.blt_eq,Nat.ble_eq] at hb;exact .inr ⟨j,by simpa using hj,hb⟩
 intro fuel
 induction fuel with
 |zero=>
  intro listed L a w bs hsz hnd hL hmem hlt hdown hr hfr;have all:∀i,i<opl.length->i∈L:=by
   intro i hi;apply Classical.byContradiction;intro hn;have:=wkg opl.length (i::L) (List.nodup_cons.2 ⟨hn,hnd⟩) (λx hx=>by
    rcases List.mem_cons.1 hx with rfl | h
    ·exact hi
    ·exact hlt x h)
   simp at this hL;omega
  refine⟨?_,?_⟩
  ·apply List.eq_nil_iff_forall_not_mem.2;intro i hi;obtain⟨h0,o,ho,_⟩:=mem_ready.1 hi;have hi':i<opl.length:=by
    have:=(Array.getElem?_eq_some_iff.1 ho).1;simpa using this
   have:=(hmem i).2 (all i hi');rw[wk9 (by omega) true false,this] at h0
   cases h0
  ·refine hend bs a w ?_ λr hr'=>hfr r (by omega) λj hj=>by have:=hlt j hj;omega
   have e1:getT (dstF opl) (uF plan) (lk T0) (λi=>listed.getD i false) opl.length=getT (dstF opl) (uF plan) (lk T0) (λ_=>true) opl.length:=by
    funext d;exact wi1 _ _ _ λj hj _=>(hmem j).2 (all j hj)
   have e2:getO (lF plan) (lk O0) (λi=>listed.getD i false) opl.length=getO (lF plan) (lk O0) (λ_=>true) opl.length:=by
    funext d;exact wi2 _ _ λj hj _=>(hmem j).2 (all j hj)
   rw[← e1, ← e2];exact hr
 |succ fuel ih=>
  intro listed L a w bs hsz hnd hL hmem hlt hdown hr hfr;refine⟨λhnil=>?_,λi hi=>?_⟩
  ·have all:∀i,i<opl.length->i∈L:=by
    intro i
    induction i using Nat.strongRecOn with
    |_ i ihh=>
     intro hi;apply Classical.byContradiction;intro hn;have:i∈Region.ready .any opl.toArray listed:=by
      refine mem_ready.2 ⟨?_,opl[i],by simp[hi],λe he hb=>?_⟩
      ·rw[wk9 (by omega) true false]
       cases hg:listed.getD i false with
       |false=>rfl
       |true=>exact absurd ((hmem i).1 hg) hn
      ·have h1:=A2 i hi e (by simp[aftF,hi];exact he) hb;exact(hmem _).2 (ihh _ h1 (by omega))
     rw[hnil] at this
     cases this
   have:=wkg L.length (List.range opl.length) List.nodup_range (λx hx=>by
    have h1:=List.mem_range.1 hx;have:opl.length=L.length+(fuel+1):=hL.symm;exact absurd (wkg opl.length L hnd hlt) (by
     have h2:opl.length<=L.length:=by
      have h3:∀(n:Nat) (L:List Nat),(∀i,i<n->i∈L)->n<=L.length:=by
       intro n
       induction n with
       |zero=>intro L _;exact zL7 _
       |succ n ihn=>
        intro L hL';have:=ihn (L.erase n) (λi hi=>(List.mem_erase_of_ne (by omega)).2 (hL' i (by omega)));have hm:=hL' n (by omega);rw[List.length_erase_of_mem hm] at this;have:0<L.length:=List.length_pos_of_mem hm;omega
      exact h3 _ _ all
     omega))
   simp at this;omega
  ·obtain⟨h0,o,ho,hall⟩:=mem_ready.1 hi;have ho':opl[i]?=some o:=by simpa using ho
   have hi':i<opl.length:=(List.getElem?_eq_some_iff.1 ho').1;have hip:i<plan.length:=by omega
   have hDi:listed.getD i false=false:=by rw[wk9 (by omega) false true];exact h0
   have hnL:i ∉ L:=λh=>by rw[(hmem i).2 h] at hDi;cases hDi
   have hp:=List.getElem?_eq_getElem hip;generalize hpe:plan[i]=p at hp;have hanc:∀j∈ancF anc i,j∈L:=by
    intro j hj;obtain⟨_,e,he,hb,hh⟩:=A1 i hi' j hj;have he':e∈o.after:=by simpa[aftF,ho'] using he
    have:=(hmem _).1 (hall e he' hb)
    rcases hh with rfl | h
    ·exact this
    ·exact hdown _ this j h
   have hup:∀j∈L,i ∉ ancF anc j:=λj hj h=>hnL (hdown j hj i h);obtain⟨hguard,hstep⟩:=hs.get i o p ho' hp
   -- the places that are seen
   have sT:Sub (hide (hF hid i).1 (lk (linT (opl.take i) (plan.take i) T0))) (getT (dstF opl) (uF plan) (lk T0) (λi=>listed.getD i false) opl.length):=by
    refine wvn λd hd=>?_;rw[wq2 opl plan T0 hlen i (by omega), ← wvp (n:=opl.length) _ _ _ (by omega)];refine wi1 _ _ _ λj hj hdj=>?_
    rcases Nat.lt_trichotomy j i with h | rfl | h
    ·rcases B1 i j hi' h with hb | ⟨_,_,hb,_⟩
     ·have hbt:Nat.blt j i=true:=by rw[Nat.blt_eq];exact h
      show Nat.blt j i=listed.getD j false;rw[hbt];exact((hmem j).2 (hanc j hb)).symm
     ·simp only[wdw,bA7,hdj] at hb;rw[hb.1] at hd;cases hd
    ·show Nat.blt j j=listed.getD j false;rw[hDi]
     cases hb:Nat.blt j j with
     |false=>rfl
     |true=>rw[Nat.blt_eq] at hb;omega
    ·have hbf:Nat.blt j i=false:=by
      cases hb:Nat.blt j i with
      |false=>rfl
      |true=>rw[Nat.blt_eq] at hb;omega
     show Nat.blt j i=listed.getD j false;rw[hbf]
     cases hg:listed.getD j false with
     |false=>rfl
     |true=>
      have hjL:=(hmem j).1 hg
      rcases B1 j i hj h with hb | ⟨_,_,_,hb⟩
      ·exact absurd hb (hup j hjL)
      ·simp only[wdw,bA7,hdj] at hb;rw[hb.1] at hd;cases hd
   have sO:Sub (hide (hF hid i).2 (lk (linO (plan.take i) O0))) (getO (lF plan) (lk O0) (λi=>listed.getD i false) opl.length):=by
    refine wvn λd hd=>?_;rw[wq3 plan O0 i (by omega), ← wvr (n:=opl.length) _ _ (by omega)];have seen:∀j,lk (lF plan j) d≠none->wdw opl plan hid i j=true->False:=λj h1 h2=>by
     simp only[wdw,bA7] at h2;have:=List.all_eq_true.1 h2.2 d ((wfx _ _).1 h1);rw[this] at hd;cases hd
    refine wi2 _ _ λj hj hdj=>?_
    rcases Nat.lt_trichotomy j i with h | rfl | h
    ·rcases B1 i j hi' h with hb | ⟨_,_,hb,_⟩
     ·have hbt:Nat.blt j i=true:=by rw[Nat.blt_eq];exact h
      show Nat.blt j i=listed.getD j false;rw[hbt];exact((hmem j).2 (hanc j hb)).symm
     ·exact(seen j hdj hb).elim
    ·show Nat.blt j j=listed.getD j false;rw[hDi]
     cases hb:Nat.blt j j with
     |false=>rfl
     |true=>rw[Nat.blt_eq] at hb;omega
    ·have hbf:Nat.blt j i=false:=by
      cases hb:Nat.blt j i with
      |false=>rfl
      |true=>rw[Nat.blt_eq] at hb;omega
     show Nat.blt j i=listed.getD j false;rw[hbf]
     cases hg:listed.getD j false with
     |false=>rfl
     |true=>
      have hjL:=(hmem j).1 hg
      rcases B1 j i hj h with hb | ⟨_,_,_,hb⟩
      ·exact absurd hb (hup j hjL)
      ·exact(seen j hdj hb).elim
   have eu:uF plan i=p.u:=by simp[uF,hp]
   have el:lF plan i=p.l:=by simp[lF,hp]
   have ed:dstF opl i=o.dst:=by simp[dstF,ho']
   have eD:(λj=>(listed.setIfInBounds i true).getD j false)=λj=>listed.getD j false || j==i:=by
    funext j
    by_cases hj:i=j
    ·subst hj;simp[show i<listed.size by omega]
    ·rw[getD_set_ne false hj];have:(j==i)=false:=by simpa using λh=>hj h.symm
     simp[this]
   have aT:getT (dstF opl) (uF plan) (lk T0) (λj=>listed.getD j false || j==i) opl.length=putF o.dst p.u (getT (dstF opl) (uF plan) (lk T0) (λi=>listed.getD i false) opl.length):=by
    funext d;rw[wvq (D:=λi=>listed.getD i false) _ _ _ hDi hi' (λj h1 h2 h3 h4 h5=>?_),ed,eu]
    ·cases o.dst with
     |none=>simp[putF]
     |some x=>simp[putF,up]
    ·rcases B1 j i h2 h1 with hb | ⟨hb,_⟩
     ·exact hup j ((hmem j).1 h3) hb
     ·simp[wlq,h4,h5,Nat.beq_refl] at hb
   have aO:getO (lF plan) (lk O0) (λj=>listed.getD j false || j==i) opl.length=upL (getO (lF plan) (lk O0) (λi=>listed.getD i false) opl.length) p.l:=by
    funext r;rw[wvs (D:=λi=>listed.getD i false) _ _ hDi hi' (λj h1 h2 h3 h4=>?_),el,wpy]
    rcases B1 j i h2 h1 with hb | ⟨_,hb,_⟩
    ·exact absurd hb (hup j ((hmem j).1 h3))
    ·cases hx:lk (lF plan i) r with
     |none=>rfl
     |some y=>exact absurd ((wfx _ _).1 (by rw[hx];simp)) (hb r ((wfx _ _).1 h4))
   have next:∀bs' a' w',(∀r,¬ (nx+16 * i<=r/\r<nx+16 * i+16)->bs' r=bs r)->
     Rep C E N (putF o.dst p.u (getT (dstF opl) (uF plan) (lk T0) (λi=>listed.getD i false) opl.length)) (upL (getO (lF plan) (lk O0) (λi=>listed.getD i false) opl.length) p.l) bs' a' w'->
     wpAny C.P .any opl.toArray Q fuel (listed.setIfInBounds i true) a' w':=by
    intro bs' a' w' hb hr';refine ih _ (i::L) a' w' bs' (by simpa using hsz) (List.nodup_cons.2 ⟨hnL,hnd⟩) (by simp;omega) (λj=>?_) (λj hj=>?_) (λj hj x hx=>?_) ?_ (λr hr1 hr2=>?_)
    ·have this:(listed.setIfInBounds i true).getD j false=(listed.getD j false || j==i):=congrFun eD j;rw[this];simp only[Bool.or_eq_true,beq_iff_eq,List.mem_cons,hmem j];exact Or.comm
    ·rcases List.mem_cons.1 hj with rfl | h
     ·exact hi'
     ·exact hlt j h
    ·rcases List.mem_cons.1 hj with rfl | h
     ·exact List.mem_cons_of_mem _ (hanc x hx)
     ·exact List.mem_cons_of_mem _ (hdown j h x hx)
    ·rw[eD,aT,aO];exact hr'
    ·rw[hb r (hr2 i (by simp))];exact hfr r hr1 λj hj=>hr2 j (List.mem_cons_of_mem _ hj)
   have hwant:Region.wanted o (yielded opl.toArray a.tmps)=p.want:=by
    rcases hguard with⟨hg,hw⟩ | ⟨d,b,want,hg,hT,hw⟩ | ⟨d,want,hg,hT,hw⟩
    ·rw[hw];simp[Region.wanted,hg]
    ·rw[← hw];exact wsp hr.1 hg (sT _ _ hT)
    ·rw[hw];exact wso hr.1 hg (sT _ _ hT)
   unfold wpOp;rw[ho];simp only[hwant]
   rcases hstep with⟨hw,hst⟩ | ⟨hw,hu,hl,hd⟩
   ·simp only[hw,if_true];refine .inl (hst E _ _ bs a w _ Q sT sO hr (λr h1 h2=>⟨?_,?_⟩) next)
    ·refine wrq (hO0 r (by omega)) λj hj hDj=>?_
     cases hx:lk (lF plan j) r with
     |none=>rfl
     |some y=>
      have hne:j≠i:=λh=>by subst h;rw[hDi] at hDj;cases hDj
      rcases C1 j hj r (by rw[hx];simp) with h | ⟨x,hxj,h3,h4⟩
      ·omega
      ·have hxi:x=i:=by omega
       subst hxi
       rcases hxj with rfl | hxj
       ·exact absurd rfl hne
       ·exact absurd hxj (hup j ((hmem j).1 hDj))
    ·refine hfr r (by omega) λj hj=>?_;have hne:j≠i:=λh=>by subst h;exact hnL hj
     omega
   ·simp only[hw,Bool.false_eq_true,if_false];refine next bs _ _ (λ_ _=>rfl) ?_
    rw[hu,hl];exact⟨hr.1.putF hd wxg,hr.2⟩
theorem AWP.drawn{m id:Nat}{Q:Exit->St->Prop}{dec:List Nat}{T1:List (Nat×AV)}{O1:List (Nat×AObj)}{nx1:Nat}(plan:List PEnt)(anc:List (List Nat))(hid:List (List Nat×List Nat))
  (hA:chkA opl anc opl.length=true) (hB:chkB opl plan anc hid opl.length=true) (hC:chkC plan anc nx opl.length=true) (hs:DAll C N opl nx opl plan hid T0 O0)
  (hT:linT opl plan T0=T1) (hO:linO plan O0=O1) (hnx:nx+16 * opl.length=nx1) (k:Q .normal ⟨T1,O1,nx1,[]⟩):AWP C m N (.region id opl.toArray true) Q ⟨T0,O0,nx,dec⟩:=by
 intro E hE bs a w hr;have hlen:=hs.len;subst hnx;have hS:Step w (MB E (lk O0) bs) bs { w with drawn:=w.drawn+1 } (MB E (lk O0) bs) bs/\WRep C E (lk O0) bs { w with drawn:=w.drawn+1 }:=by
  refine hr.1.2.next (λ_=>False) (λ_ _ h=>h) (λ_ _ _ h=>.inl h) (λ_ h=>h.elim) (λ_ _ _=>rfl) (lR7 _) (λ_ h=>.inl h) (λ_ _ _ h=>.inl ⟨h,λ_ _ _ h=>h⟩) hr.1.2.sep ?_ rfl ⟨rfl,λ_=>Nat.le_succ _⟩ rfl;intro r t sz n f b c ho hb;have:=hr.1.2.frz r t sz n f b c ho hb;exact⟨λh=>this (.inr h),λh=>this (.inl h)⟩
 refine wp_region_any C.mixed (w5z (E:=E) hA hB hC hs (λr h=>(hr.2.1 r h).1) (λbs' a' w' hr' hf'=>?_) opl.toArray.size (Array.replicate opl.toArray.size false) [] a _ bs (by simp) List.nodup_nil (by simp) (λi=>?_) (by simp) (by simp) ?_ (λr h _=>(hr.2.1 r h).2))
 ·have e1:getT (dstF opl) (uF plan) (lk T0) (λ_=>true) opl.length=lk T1:=by
   rw[← hT, ← wq2 opl plan T0 hlen opl.length (lR7 _),List.take_length,hlen,List.take_length]
  have e2:getO (lF plan) (lk O0) (λ_=>true) opl.length=lk O1:=by
   rw[← hO,hlen, ← wq3 plan O0 plan.length (lR7 _),List.take_length]
  rw[e1,e2] at hr';refine⟨⟨T1,O1,_,[]⟩,bs',k,hr',λr h=>⟨?_,hf' r h⟩,Nat.le_trans hr.2.2 (Nat.le_add_right _ _)⟩;show lk O1 r=none;have h':nx+16 * opl.length<=r:=h;rw[← e2];refine wrq ((hr.2.1 r (show nx<=r by omega)).1) λj hj _=>?_
  cases hx:lk (lF plan j) r with
  |none=>rfl
  |some y=>
   have:=List.all_eq_true.1 (List.all_eq_true.1 hC j (List.mem_range.2 hj)) r ((wfx _ _).1 (by rw[hx];simp));simp only[Bool.or_eq_true,Nat.blt_eq] at this
   rcases this with h | h
   ·omega
   ·obtain⟨x,hxm,hb⟩:=List.any_eq_true.1 h;simp only[bA7,Nat.blt_eq,Nat.ble_eq] at hb;have hxl:x<=j:=by
     rcases List.mem_cons.1 hxm with rfl | hm
     ·exact lR7 _
     ·have:=List.all_eq_true.1 hA j (List.mem_range.2 hj);simp only[bA7] at this;have h1:=List.all_eq_true.1 this.1 x hm;simp only[bA7,Nat.blt_eq] at h1;omega
    omega
 ·by_cases hi:i<opl.length<;>simp[Array.getD,hi]
 ·have hD:(λi=>(Array.replicate opl.toArray.size false).getD i false)=λ_=>false:=by
   funext i
   by_cases hi:i<opl.length<;>simp[Array.getD,hi]
  rw[hD];have e1:∀n,getT (dstF opl) (uF plan) (lk T0) (λ_=>false) n=lk T0:=by
   intro n;induction n with
   |zero=>rfl
   |succ n ih=>funext d;simp[getT,ih]
  have e2:∀n,getO (lF plan) (lk O0) (λ_=>false) n=lk O0:=by
   intro n;induction n with
   |zero=>rfl
   |succ n ih=>funext d;simp[getO,ih]
  rw[e1,e2];exact⟨hr.1.1.step hS.1,hS.2⟩
end
end Go.Eng
