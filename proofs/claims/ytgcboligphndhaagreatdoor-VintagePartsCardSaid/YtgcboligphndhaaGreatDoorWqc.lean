/- The engine, part 38: clear. -/
import Derived.Test.YtgcboligphndhaaGreatDoorWqb
import Derived.MapKept
import Derived.Below
import Derived.WideKeyRuns
import Derived.Laws.CopyRow
import Derived.Laws.BytesString
namespace Go.Eng
def putF(d:Option Tmp)(u:AV)(T:Nat->Option AV):Nat->Option AV:=match d with
 |some d=>up T d u
 |none=>T
theorem wk5(d:Option Tmp)(u:AV)(T:List (Nat×AV)):lk (putT d u T)=putF d u (lk T):=by
 cases d with
 |none=>rfl
 |some d=>
  show lk ((d,u)::rm d T)=up (lk T) d u;rw[wez,wk4]
theorem FRep.putF{w:World}{M:Nat->Prop}{bs:Nat->Option Hd}{N:Nat}{T:Nat->Option AV}{a:Act}(h:FRep w M bs N T a){d:Option Tmp}(hd:wba N d=true){v:Value}{u:AV}(hv:V w M bs v u):FRep w M bs N (putF d u T) (a.put d v):=by
 cases d with
 |none=>exact h
 |some d=>
  have hd':d<N:=by simpa[wba,Nat.blt_eq] using hd
  obtain⟨h0,h1,h2⟩:=h;refine⟨by simpa[Act.put] using h0,by simpa[Act.put] using h1,λi x hx=>?_⟩;have hx':up T d u i=some x:=hx
  by_cases hi:d=i
  .subst hi;rw[waz] at hx';simp only[sI7] at hx';subst hx';exact⟨v,by simp[Act.put,h1,hd'],hv⟩
  .rw[wav _ _ _ hi] at hx';obtain⟨y,hy,hyv⟩:=h2 i x hx';exact⟨y,by simp[Act.put,Array.getElem?_setIfInBounds_ne hi,hy],hyv⟩
def way(C:Ctx)(N:Nat)(o:Oper)(T:Nat->Option AV)(O:Nat->Option AObj)(k:Nat)(u:AV)(l:List (Nat×AObj)):Prop:=
 ∀(E:Ent) (T':Nat->Option AV) (O':Nat->Option AObj) (bs:Nat->Option Hd) (a:Act) (w:World) (K:Act->World->Prop) (Q:Exit->Act->World->Prop),Sub T T'->Sub O O'->Rep C E N T' O' bs a w->
  (∀r,k<=r->r<k+16->O' r=none/\bs r=none)->
  (∀bs' a' w',(∀r,¬ (k<=r/\r<k+16)->bs' r=bs r)->Rep C E N (putF o.dst u T') (upL O' l) bs' a' w'->K a' w')->o.wp C.P a w K Q
theorem wqk(O:Nat->Option AObj):∀(l:List (Nat×AObj)) (r:Nat),upL O l r=(lk l r).or (O r)
 |[],r=>by simp[upL,lk]
 |(j,x)::l,r=>by
  simp only[upL,up,wax,wqk O l r];split<;>simp
section
variable {C:Ctx} {N:Nat} {o:Oper} {T:Nat->Option AV} {O:Nat->Option AObj} {k:Nat} {te:TE}
theorem way.pure(hte:TE.ok C.P te)(hn:∀t ti,lk te t=some ti->wa8 ti.desc=false->ti.sz=1){u:AV}{vc:Prop}(h:wb7 te T O o.op=some (u,vc))(hd:wba N o.dst=true)(hvc:vc):way C N o T O k u []:=by
 intro E T' O' bs a w K Q hT hO hr hf hK;obtain⟨v,h1,h2⟩:=wx5 hte hn hr.2 hr.1 (wjs hT hO h) hvc;unfold Oper.wp;rw[h1];exact hK bs _ _ (λ_ _=>rfl) ⟨hr.1.putF hd h2,hr.2⟩
theorem way.eff(hte:TE.ok C.P te){u:AV}{l:List (Nat×AObj)}{vc:Prop}(h:wb8 te T O k o.op=some (u,l,vc))(hd:wba N o.dst=true)(hvc:vc):way C N o T O k u l:=by
 intro E T' O' bs a w K Q hT hO hr hf hK;obtain⟨h0,h0'⟩:=hf k (lR7 _) (by omega);obtain⟨nx,v,w',bs',h1,h2,h3,h4,h5,h6⟩:=wx6 hte hr.2 hr.1 h0 h0' (wls hT hO h) hvc;have hbs:∀r,¬ (k<=r/\r<k+16)->bs' r=bs r:=λr hr=>h3 r (by omega);unfold Oper.wp;rw[h1]
 rcases h2 with rfl | ⟨rfl,rfl⟩
 .exact hK bs' _ _ hbs ⟨(hr.1.step h4).putF hd h6,h5⟩
 .exact hK bs' _ _ hbs ⟨(hr.1.step h4).putF hd h6,h5⟩
def wcp(ρ:Nat->Option Nat)(O:Nat->Option AObj):List Nat->List AObj->Prop
 |[],[]=>True
 |r::l,o'::l'=>(∃o,O r=some o/\o.mut=true/\OLe ρ o o')/\wcp ρ O l l'
 |_,_=>False
theorem wcp.len{ρ:Nat->Option Nat}{O:Nat->Option AObj}:∀ {l:List Nat} {l':List AObj},wcp ρ O l l'->l.length=l'.length
 |[],[],_=>rfl
 |_::l,_::l',h=>by simp[wcp.len h.2]
 |[],_::_,h=>h.elim
 |_::_,[],h=>h.elim
theorem wcp.get{ρ:Nat->Option Nat}{O:Nat->Option AObj}:∀ {l:List Nat} {l':List AObj},wcp ρ O l l'->∀(j r:Nat) (o':AObj),l[j]?=some r->l'[j]?=some o'->∃o,O r=some o/\o.mut=true/\OLe ρ o o'
 |[],[],_,j,r,o',h,_=>by simp at h
 |x::l,y::l',h,0,r,o',h1,h2=>by simp at h1 h2;subst h1;subst h2;exact h.1
 |x::l,y::l',h,j+1,r,o',h1,h2=>wcp.get h.2 j r o' (by simpa using h1) (by simpa using h2)
 |[],_::_,h,_,_,_,_,_=>h.elim
 |_::_,[],h,_,_,_,_,_=>h.elim
theorem wcp.sub{ρ:Nat->Option Nat}{O O':Nat->Option AObj}(hs:Sub O O'):∀ {l:List Nat} {l':List AObj},wcp ρ O l l'->wcp ρ O' l l'
 |[],[],_=>trivial
 |_::_,_::_,⟨⟨o,h1,h2⟩,h⟩=>⟨⟨o,hs _ _ h1,h2⟩,wcp.sub hs h⟩
 |[],_::_,h=>h.elim
 |_::_,[],h=>h.elim
theorem way.call{fo:Operand}{args:Array Operand}{at_:Array TypeId}{f:FuncId}{cap as:List AV}{cobjs:List AObj}{R:AV->List (Nat×AObj)->Prop}(pass:List Nat){u2:AV}{O2:List (Nat×AObj)}
   (hop:o.op= .call { callee:=.value fo,args:=args,argTypes:=at_ }) (hd:wba N o.dst=true) (hf:evO T fo=some (.func f cap)) (ha:evL T args.toList=some as)
   (hnd:pass.Nodup) (hO:wcp (idxN pass) O pass cobjs) (hc:wal C f (AV.rnL (idxN pass) (as++cap)) cobjs R)
   (hR:∀u O',R u O'->u.rn (sig pass k)=u2/\wbx (sig pass k) O' O2):
   way C N o T O k u2 (O2++deads pass):=by
 intro E1 T' S' bs a w K Q hT hOs hr hfr hK;obtain⟨hF,hW⟩:=hr;have hF0:=hF;replace hf:=wbg hT hf;replace ha:=wjt hT ha;replace hO:=hO.sub hOs;have hlen:=hO.len;have hpl:∀(j r:Nat),pass[j]?=some r->¬ (k<=r/\r<k+16)/\∃o,S' r=some o/\o.mut=true:=by
   intro j r hj;have hj':j<cobjs.length:=by rw[← hlen];exact(List.getElem?_eq_some_iff.1 hj).1
   obtain⟨ob,h1,h2,_⟩:=hO.get j r _ hj (List.getElem?_eq_getElem hj');refine⟨?_,ob,h1,h2⟩;intro h;rw[(hfr r h.1 h.2).1] at h1;cases h1
 have hbsome:∀r ob,S' r=some ob->ob.mut=true->∃h,bs r=some h:=by
   intro r ob h1 h2;have:=hW.obj r ob h1
   cases ob with
   |cells cs t=>obtain⟨b,c,_,h,_⟩:=this;exact⟨_,h⟩
   |row t sz n f fr=>rcases this with⟨h,_⟩ | ⟨b,c,_,h,_⟩<;>exact⟨_,h⟩
   |amap es=>obtain⟨b,c,_,_,h,_⟩:=this;exact⟨_,h⟩
   |siter l p=>obtain⟨b,c,_,h,_⟩:=this;exact⟨_,h⟩
   |miter m n l=>obtain⟨b,c,_,_,_,h,_⟩:=this;exact⟨_,h⟩
   |dead=>simp[AObj.mut] at h2
 -- the callee's side
 let bs0:Nat->Option Hd:=λj=>(pass[j]?).bind bs
 let M1:=MB E1 (S') bs
 let E:Ent:={ w0:=w,m:=cobjs.length,bs0:=bs0,mut0:=mutB (lkL cobjs) bs0,outer:=λb=>M1 b/\¬ mutB (lkL cobjs) bs0 b }
 have hmo:∀(j r:Nat) (o':AObj),pass[j]?=some r->cobjs[j]?=some o'->o'.mut=true:=λj r o' h1 h2=>by
   obtain⟨ob,h3,h4,h5⟩:=hO.get j r o' h1 h2;rw[← h5.mut];exact h4
 have m0:∀b,mutB (lkL cobjs) bs0 b->∃(j r:Nat) (ob:AObj) (c:Nat),pass[j]?=some r/\S' r=some ob/\ob.mut=true/\bs r=some (.blk b c):=by
   rintro b ⟨j,o',c,h1,h2,h3⟩;have hj:j<pass.length:=by rw[hlen];exact(List.getElem?_eq_some_iff.1 h1).1
   have hp:=List.getElem?_eq_getElem hj;obtain⟨ob,h4,h5,_⟩:=hO.get j _ o' hp h1;refine⟨j,_,ob,c,hp,h4,h5,?_⟩;simpa[bs0,hp] using h3
 have m0':∀b,mutB (lkL cobjs) bs0 b->mutB (S') bs b:=λb h=>by
   obtain⟨j,r,ob,c,h1,h2,h3,h4⟩:=m0 b h;exact⟨r,ob,c,h2,h3,h4⟩
 have hM0:∀b,MB E (lkL cobjs) bs0 b↔M1 b:=λb=>by
   constructor
   · rintro(h | h)
     · exact h.1
     · exact .inr (m0' b h)
   · intro h
     by_cases hm:mutB (lkL cobjs) bs0 b
     · exact .inr hm
     · exact .inl ⟨h,hm⟩
 have hρ:∀r k x,idxN pass r=some k->bs r=some x->bs0 k=some x:=λr k x hr hx=>by
   show (pass[k]?).bind bs=some x;rw[wjk pass r k hr];exact hx
 have ρat:∀(j r:Nat),pass[j]?=some r->idxN pass r=some j:=by
   intro j r hj;have hex:∀(l:List Nat) (j:Nat),l[j]?=some r->∃k,idxN l r=some k:=by
     intro l
     induction l with
     |nil=>intro j h;simp at h
     |cons d l ih=>
       intro j h;simp only[idxN];split
       · exact⟨_,rfl⟩
       · rename_i hne
         cases j with
         |zero=>simp at h;subst h;simp[Nat.beq_refl] at hne
         |succ j=>
           obtain⟨k,hk⟩:=ih j (by simpa using h);rw[hk];exact⟨_,rfl⟩
   obtain⟨k,hk⟩:=hex pass j hj;have hk':=wjk pass r k hk;have:k=j:=by
     exact(List.getElem?_inj (List.getElem?_eq_some_iff.1 hk').1 hnd).1 (hk'.trans hj.symm)
   rw[hk,this]
 have vin:∀ {v:Value} {u:AV},V w M1 bs v u->V w (MB E (lkL cobjs) bs0) bs0 v (u.rn (idxN pass)):=λh=>
   (h.rn (idxN pass) bs0 hρ).step_ (λb _ hb hb'=>hb ((hM0 b).1 hb')) (λ_ _ _=>rfl) (lR7 _) _ λ_ _ hh=>hh
 have hW0:WRep C E (lkL cobjs) bs0 w:={
   obj:=λj o' ho=>by
     have hj:j<pass.length:=by rw[hlen];exact(List.getElem?_eq_some_iff.1 ho).1
     have hp:=List.getElem?_eq_getElem hj;obtain⟨ob,h4,h5,h6⟩:=hO.get j _ o' hp ho;exact(h6.ok hρ (ρat j _ hp) (hW.obj _ _ h4)).step ⟨λ_ _ h=>h,λb _ hb hb'=>hb ((hM0 b).1 hb'),λ_ _ _=>rfl,lR7 _⟩ λ_ _ _=>rfl
   sep:=λj j' o1 o2 b c c' h1 h2 n1 n2 b1 b2=>by
     have hj:j<pass.length:=by rw[hlen];exact(List.getElem?_eq_some_iff.1 h1).1
     have hj':j'<pass.length:=by rw[hlen];exact(List.getElem?_eq_some_iff.1 h2).1
     have hp:=List.getElem?_eq_getElem hj;have hp':=List.getElem?_eq_getElem hj';obtain⟨q1,h4,h5,_⟩:=hO.get j _ o1 hp h1;obtain⟨q2,h4',h5',_⟩:=hO.get j' _ o2 hp' h2;have:=hW.sep _ _ q1 q2 b c c' h4 h4' h5 h5' (by simpa[bs0,hp] using b1) (by simpa[bs0,hp'] using b2);exact(List.getElem?_inj hj hnd).1 (by rw[hp,hp',this])
   out:=λb hb ho=>ho.2 hb
   frz:=λj t sz n f b c ho hb=>by
     have hj:j<pass.length:=by rw[hlen];exact(List.getElem?_eq_some_iff.1 ho).1
     have:=hmo j _ _ (List.getElem?_eq_getElem hj) ho;simp[AObj.mut] at this
   high:=λb hb=>hW.high b ((hM0 b).1 hb)
   lt:=λj b c hb=>by
     show b<w.heap.size
     cases hp:pass[j]? with
     |none=>simp[bs0,hp] at hb
     |some r=>exact hW.lt r b c (by simpa[bs0,hp] using hb)
   outlt:=λb hb=>by
     show b<w.heap.size
     rcases hb.1 with h | ⟨r,ob,c,_,_,h⟩
     · exact Nat.lt_of_lt_of_le (hW.outlt b h) hW.size
     · exact hW.lt r b c h
   keep:=λb _ _=>rfl
   old:=λb hb=>.inl hb
   size:=lR7 _
   pre:=λr h _ hb=>hb
   os:=rfl
   tape:=.refl _ _
   output:=rfl
   laid:=hW.laid
   gle:=Nat.le_trans hW.gle hW.size }
 have hsf:=wbe hF hf;obtain⟨hal,hav⟩:=wlt hF _ _ ha;generalize hfe:a.eval fo=vf at hsf
 cases hsf with
 |func hcl hcv=>
   rename_i caps;have hcall:=hc.2 E bs0 w ((args.toList.map a.eval)++caps.toList) rfl rfl rfl hW0 (λr hr=>by
       show (pass[r]?).bind bs=none;rw[List.getElem?_eq_none (by omega)];rfl)
     (by rw[wfc,lA7,lA7,hal];show _+caps.size=_;rw[hcl])
     (λj v u hv hu=>by
       rw[wfd] at hu;obtain⟨u',hu',rfl⟩:=Option.map_eq_some_iff.1 hu;refine vin ?_
       rcases Nat.lt_or_ge j as.length with hj | hj
       · rw[List.getElem?_append_left (by rw[hal];exact hj)] at hv;rw[List.getElem?_append_left hj] at hu';exact hav j v u' hv hu'
       · rw[List.getElem?_append_right (by rw[hal];exact hj),hal] at hv;rw[List.getElem?_append_right hj] at hu';exact hcv _ v u' (by simpa using hv) hu')
   have hrun:(execOp a.eval o).run C.P w= .ok (.enter f ((args.toList.map a.eval)++caps.toList).toArray) w:=by
     have e:((args.toList.map a.eval)++caps.toList).toArray=args.map a.eval++caps:=by
       apply Array.toList_inj.1;simp
     rw[e];simp only[execOp,hop,resolve,hfe,Deferred.ofValue,Sem.run_bind,Sem.run_pure,Result.andThen_ok,invoke,Array.empty_append];exact wu9 hc.1 _ w
   unfold Oper.wp;rw[hrun,Oper.upon_enter];refine hcall.mono ?_;rintro e w' ⟨v,u,O',bs',rfl,hRR,hW',hV',hfr'⟩;obtain⟨rfl,hOB⟩:=hR u O' hRR
   -- the caller's side, behind the call
   let bs2:Nat->Option Hd:=λr=>if k<=r/\r<k+16 then bs' (r - k+pass.length) else bs r
   have lt16:∀j o',lk O' j=some o'->j<pass.length+16:=λj o' h=>by
     rcases Nat.lt_or_ge j (pass.length+16) with hh | hh
     · exact hh
     · rw[(hfr' j (by rw[← hlen];exact hh)).1] at h;cases h
   have lt16':∀j x,bs' j=some x->j<pass.length+16:=λj x h=>by
     rcases Nat.lt_or_ge j (pass.length+16) with hh | hh
     · exact hh
     · rw[(hfr' j (by rw[← hlen];exact hh)).2] at h;cases h
   let S3:Nat->Option AObj:=upL S' (O2++deads pass)
   have lk3:∀r,S3 r=((lk O2 r).or (lk (deads pass) r)).or (S' r):=λr=>by
     show upL S' (O2++deads pass) r=_;rw[wqk,wc7]
   have hold:∀(j r:Nat),pass[j]?=some r->bs' j=bs r:=by
     intro j r hj;obtain⟨_,ob,h1,h2⟩:=hpl j r hj;obtain⟨h,hh⟩:=hbsome r ob h1 h2;rw[hh];refine hW'.pre j h ?_ ?_
     · show j<cobjs.length;rw[← hlen];exact(List.getElem?_eq_some_iff.1 hj).1
     · show (pass[j]?).bind bs=some h;rw[hj];exact hh
   have sigb:∀(j r:Nat),j<pass.length+16->sig pass k j=some r->bs2 r=bs' j:=by
     intro j r hj16 hj;unfold sig at hj;split at hj
     · rename_i r' hp;simp only[sI7] at hj;subst hj;show (if k<=r'/\r'<k+16 then _ else bs r')=bs' j
       rw[if_neg (hpl j r' hp).1,hold j r' hp]
     · rename_i hp;simp only[sI7] at hj;subst hj;have:pass.length<=j:=List.getElem?_eq_none_iff.1 hp;show (if k<=k+(j - pass.length)/\k+(j - pass.length)<k+16 then bs' (k+(j - pass.length) - k+pass.length) else _)=bs' j
       rw[if_pos (by omega)];congr 1;omega
   have hσ:∀j r x,sig pass k j=some r->bs' j=some x->bs2 r=some x:=λj r x hj hx=>by rw[sigb j r (lt16' j x hx) hj];exact hx
   -- where an object of the new table comes from
   have cases3:∀r o2,S3 r=some o2->(∃j o',sig pass k j=some r/\lk O' j=some o'/\OLe (sig pass k) o' o2)∨o2= .dead∨(r ∉ pass/\S' r=some o2):=by
     intro r o2 h;rw[lk3,wr4] at h
     cases hx:lk O2 r with
     |some y=>
       rw[hx] at h;simp only[Option.some_or,sI7] at h;subst h;exact .inl (hOB.get r y hx)
     |none=>
       rw[hx] at h;simp only[Option.none_or] at h;split at h
       · simp only[Option.some_or,sI7] at h;exact .inr (.inl h.symm)
       · rename_i hnp;exact .inr (.inr ⟨hnp,by simpa using h⟩)
   have oldnx:∀r ob,S' r=some ob->¬ (k<=r/\r<k+16):=by
     intro r ob h hh;rw[(hfr r hh.1 hh.2).1] at h;cases h
   have oldmut:∀r ob b c,r ∉ pass->S' r=some ob->ob.mut=true->bs r=some (.blk b c)->¬ mutB (lkL cobjs) bs0 b:=by
     intro r ob b c hnp h1 h2 h3 hm;obtain⟨j,r',ob',c',p1,p2,p3,p4⟩:=m0 b hm;have:=hW.sep r r' ob ob' b c c' h1 p2 h2 p3 h3 p4;subst this;exact hnp (List.mem_of_getElem? p1)
   have mut3:∀b,mutB S3 bs2 b->mutB (lk O') bs' b∨(mutB (S') bs b/\¬ mutB (lkL cobjs) bs0 b):=by
     rintro b ⟨r,o2,c,h1,h2,h3⟩
     rcases cases3 r o2 h1 with⟨j,o',q1,q2,q3⟩ | rfl | ⟨q1,q2⟩
     · exact .inl ⟨j,o',c,q2,by rw[q3.mut];exact h2,by rw[← sigb j r (lt16 j o' q2) q1];exact h3⟩
     · simp[AObj.mut] at h2
     · have hlt:=oldnx r o2 q2;have h3':bs r=some (.blk b c):=by
         have:bs2 r=bs r:=if_neg hlt;rw[← this];exact h3
       exact .inr ⟨⟨r,o2,c,q2,h2,h3'⟩,oldmut r o2 b c q1 q2 h2 h3'⟩
   have hM2:∀b,MB E1 S3 bs2 b->MB E (lk O') bs' b:=by
     rintro b (h | h)
     · exact .inl ⟨.inl h,λhm=>hW.out b (m0' b hm) h⟩
     · rcases mut3 b h with h | ⟨h,hn⟩
       · exact .inr h
       · exact .inl ⟨.inr h,hn⟩
   have hM3:∀b,b<w.heap.size->MB E (lk O') bs' b->M1 b:=by
     rintro b hb (h | h)
     · exact h.1
     · rcases hW'.old b h with h | h
       · exact .inr (m0' b h)
       · have:w.heap.size<=b:=h;omega
   have heap_:∀b,b<w.heap.size->¬ mutB (lkL cobjs) bs0 b->w'.heap[b]?=w.heap[b]?:=λb hb hn=>hW'.keep b hb hn;have bs_:∀r h,bs r=some h->bs2 r=some h:=by
     intro r h hh;have hlt:¬ (k<=r/\r<k+16):=λhh'=>by
       rw[(hfr r hh'.1 hh'.2).2] at hh;cases hh
     have:bs2 r=bs r:=if_neg hlt;rw[this];exact hh
   have hS:Step w M1 bs w' (MB E1 S3 bs2) bs2:=
     ⟨bs_,λb hb hn h=>hn (hM3 b hb (hM2 b h)),λb hb hn=>heap_ b hb λhm=>hn (.inr (m0' b hm)),hW'.size⟩
   have hSV:∀ {v:Value} {u:AV},V w' (MB E (lk O') bs') bs' v u->V w' (MB E1 S3 bs2) bs2 v (u.rn (sig pass k)):=λh=>
     (h.rn (sig pass k) bs2 hσ).step_ (λb _ hb hb'=>hb (hM2 b hb')) (λ_ _ _=>rfl) (lR7 _) _ λ_ _ hh=>hh
   have hW2:WRep C E1 S3 bs2 w':={
     obj:=λr o2 ho=>by
       rcases cases3 r o2 ho with⟨j,o',q1,q2,q3⟩ | rfl | ⟨q1,q2⟩
       · exact(q3.ok hσ q1 (hW'.obj j o' q2)).step ⟨λ_ _ h=>h,λb _ hb hb'=>hb (hM2 b hb'),λ_ _ _=>rfl,lR7 _⟩ λ_ _ _=>rfl
       · trivial
       · by_cases hdd:o2= .dead
         · subst hdd;trivial
         refine(hW.obj r o2 q2).step hS λb c hb=>heap_ b (hW.lt r b c hb) ?_
         cases hmm:o2.mut with
         |true=>exact oldmut r o2 b c q1 q2 hmm hb
         |false=>
           intro hm
           cases o2 with
           |row t sz n f fr=>
             have:fr=true:=by simpa[AObj.mut] using hmm
             subst this;exact hW.frz r t sz n f b c q2 hb (.inr (m0' b hm))
           |dead=>exact hdd rfl
           |_=>simp[AObj.mut] at hmm
     sep:=λr r' o1 o2 b c c' h1 h2 n1 n2 b1 b2=>by
       have mem:∀r o2 b c,S3 r=some o2->o2.mut=true->bs2 r=some (.blk b c)->(∃j o',sig pass k j=some r/\lk O' j=some o'/\o'.mut=true/\bs' j=some (.blk b c))∨(r ∉ pass/\S' r=some o2/\bs r=some (.blk b c)):=by
         intro r o2 b c h1 h2 h3
         rcases cases3 r o2 h1 with⟨j,o',q1,q2,q3⟩ | rfl | ⟨q1,q2⟩
         · exact .inl ⟨j,o',q1,q2,by rw[q3.mut];exact h2,by rw[← sigb j r (lt16 j o' q2) q1];exact h3⟩
         · simp[AObj.mut] at h2
         · have:bs2 r=bs r:=if_neg (oldnx r o2 q2);exact .inr ⟨q1,q2,by rw[← this];exact h3⟩
       have clash:∀j o' r ob b c c',lk O' j=some o'->o'.mut=true->bs' j=some (.blk b c)->r ∉ pass->S' r=some ob->ob.mut=true->bs r=some (.blk b c')->False:=by
         intro j o' r ob b c c' h1 h2 h3 h4 h5 h6 h7
         rcases hW'.old b ⟨j,o',c,h1,h2,h3⟩ with h | h
         · exact oldmut r ob b c' h4 h5 h6 h7 h
         · have hlt:=hW.lt r b c' h7;have:w.heap.size<=b:=h;omega
       rcases mem r o1 b c h1 n1 b1 with⟨j,o',q1,q2,q3,q4⟩ | ⟨q1,q2,q3⟩
       · rcases mem r' o2 b c' h2 n2 b2 with⟨j',o'',p1,p2,p3,p4⟩ | ⟨p1,p2,p3⟩
         · have:=hW'.sep j j' o' o'' b c c' q2 p2 q3 p3 q4 p4;subst this;rw[q1] at p1;injection p1
         · exact(clash j o' r' o2 b c c' q2 q3 q4 p1 p2 n2 p3).elim
       · rcases mem r' o2 b c' h2 n2 b2 with⟨j',o'',p1,p2,p3,p4⟩ | ⟨p1,p2,p3⟩
         · exact(clash j' o'' r o1 b c' c p2 p3 p4 q1 q2 n1 q3).elim
         · exact hW.sep r r' o1 o2 b c c' q2 p2 n1 n2 q3 p3
     out:=λb hb ho=>by
       rcases mut3 b hb with h | ⟨h,_⟩
       · exact hW'.out b h ⟨.inl ho,λhm=>hW.out b (m0' b hm) ho⟩
       · exact hW.out b h ho
     frz:=λr t sz n f b c ho hb hM=>by
       rcases cases3 r _ ho with⟨j,o',q1,q2,q3⟩ | h | ⟨q1,q2⟩
       · cases o'<;>simp only[OLe] at q3;obtain⟨rfl,rfl,rfl,rfl,_⟩:=q3;exact hW'.frz j _ _ _ _ b c q2 (by rw[← sigb j r (lt16 j _ q2) q1];exact hb) (hM2 b hM)
       · cases h
       · have e:bs2 r=bs r:=if_neg (oldnx r _ q2);have hb':bs r=some (.blk b c):=by rw[← e];exact hb
         exact hW.frz r t sz n f b c q2 hb' (hM3 b (hW.lt r b c hb') (hM2 b hM))
     high:=λb hb=>hW'.high b (hM2 b hb)
     lt:=λr b c hb=>by
       by_cases hlt:¬ (k<=r/\r<k+16)
       · have e:bs2 r=bs r:=if_neg hlt;exact Nat.lt_of_lt_of_le (hW.lt r b c (by rw[← e];exact hb)) hW'.size
       · have e:bs2 r=bs' (r - k+pass.length):=if_pos (Classical.not_not.1 hlt);exact hW'.lt _ b c (by rw[← e];exact hb)
     outlt:=hW.outlt
     keep:=λb hb hm=>by
       have hlt:b<w.heap.size:=Nat.lt_of_lt_of_le hb hW.size;rw[heap_ b hlt (λh=>?_)]
       · exact hW.keep b hb hm
       · rcases hW.old b (m0' b h) with h | h
         · exact hm h
         · omega
     old:=λb hb=>by
       rcases mut3 b hb with h | ⟨h,_⟩
       · rcases hW'.old b h with h | h
         · exact hW.old b (m0' b h)
         · right;exact Nat.le_trans hW.size h
       · exact hW.old b h
     size:=Nat.le_trans hW.size hW'.size
     pre:=λr h hr hb=>bs_ r h (hW.pre r h hr hb)
     os:=hW'.os.trans hW.os
     tape:=hW'.tape.trans hW.tape
     output:=hW'.output.trans hW.output
     laid:=hW'.laid
     gle:=hW.gle }
   exact hK bs2 _ _ (λr hr=>if_neg hr) ⟨(hF.step hS).putF hd (hSV hV'),hW2⟩
end
structure PEnt where
 want:Bool
 u:AV
 l:List (Nat×AObj)
section
variable (dst:Nat->Option Nat) (us:Nat->AV) (ls:Nat->List (Nat×AObj)) (T0:Nat->Option AV) (O0:Nat->Option AObj)
def getT(D:Nat->Bool):Nat->Nat->Option AV
 |0,d=>T0 d
 |n+1,d=>if D n=true/\dst n=some d then some (us n) else getT D n d
def getO(D:Nat->Bool):Nat->Nat->Option AObj
 |0,r=>O0 r
 |n+1,r=>if D n=true then (lk (ls n) r).or (getO D n r) else getO D n r
theorem wjn{D D':Nat->Bool}{d:Nat}:∀ {n:Nat},(∀j,j<n->dst j=some d->D j=D' j)->getT dst us T0 D n d=getT dst us T0 D' n d
 |0,_=>rfl
 |n+1,h=>by
  simp only[getT];rw[wjn (λj hj=>h j (by omega))]
  by_cases hd:dst n=some d
  .rw[h n (by omega) hd]
  .simp[hd]
theorem wxg{D:Nat->Bool}{i d:Nat}(hi:D i=false):∀ {n:Nat},i<n->(∀j,i<j->j<n->D j=true->dst j=some d->dst i≠some d)->
  getT dst us T0 (λj=>D j || j==i) n d=if dst i=some d then some (us i) else getT dst us T0 D n d
 |0,h,_=>by omega
 |n+1,h,hl=>by
  simp only[getT]
  by_cases hin:n=i
  .subst hin;rw[wjn dst us T0 (D:=λj=>D j || j==n) (D':=D) (n:=n) (λj hj _=>by simp;omega)];simp[hi]
  .rw[wxg hi (by omega) (λj h1 h2=>hl j h1 (by omega))];have:(n==i)=false:=by simpa using hin
   simp only[this,Bool.or_false]
   by_cases hc:D n=true/\dst n=some d
   .have:=hl n (by omega) (by omega) hc.1 hc.2;simp[hc,this]
   .simp[hc]
theorem wjo{D D':Nat->Bool}{r:Nat}:∀ {n:Nat},(∀j,j<n->lk (ls j) r≠none->D j=D' j)->getO ls O0 D n r=getO ls O0 D' n r
 |0,_=>rfl
 |n+1,h=>by
  simp only[getO];rw[wjo (λj hj=>h j (by omega))]
  by_cases hd:lk (ls n) r=none
  .simp[hd]
  .rw[h n (by omega) hd]
theorem wxi{D:Nat->Bool}{i r:Nat}(hi:D i=false):∀ {n:Nat},i<n->(∀j,i<j->j<n->D j=true->lk (ls j) r≠none->lk (ls i) r=none)->
  getO ls O0 (λj=>D j || j==i) n r=(lk (ls i) r).or (getO ls O0 D n r)
 |0,h,_=>by omega
 |n+1,h,hl=>by
  simp only[getO]
  by_cases hin:n=i
  .subst hin;rw[wjo ls O0 (D:=λj=>D j || j==n) (D':=D) (n:=n) (λj hj _=>by simp;omega)];simp[hi]
  .rw[wxi hi (by omega) (λj h1 h2=>hl j h1 (by omega))];have:(n==i)=false:=by simpa using hin
   simp only[this,Bool.or_false]
   by_cases hc:D n=true
   .simp only[hc,if_true]
    by_cases hn:lk (ls n) r=none
    .simp[hn]
    .rw[hl n (by omega) (by omega) hc hn];simp
   .simp[hc]
theorem wxf {j d : Nat} : ∀ {n : Nat}, j ≤ n → getT dst us T0 (fun x => Nat.blt x j) n d = getT dst us T0 (fun _ => true) j d
  | 0, h => by have : j = 0 := by omega
               subst this; rfl
  | n + 1, h => by
    by_cases hj : j = n + 1
    · subst hj
      exact wjn dst us T0 (fun x hx _ => by simp [Nat.blt_eq, hx])
    · have hb : Nat.blt n j = false := by
        cases hb : Nat.blt n j with
        | false => rfl
        | true => rw [Nat.blt_eq] at hb; omega
      rw [← wxf (n := n) (by omega)]
      simp [getT, hb]
theorem wxh {j r : Nat} : ∀ {n : Nat}, j ≤ n → getO ls O0 (fun x => Nat.blt x j) n r = getO ls O0 (fun _ => true) j r
  | 0, h => by have : j = 0 := by omega
               subst this; rfl
  | n + 1, h => by
    by_cases hj : j = n + 1
    · subst hj
      exact wjo ls O0 (fun x hx _ => by simp [Nat.blt_eq, hx])
    · have hb : Nat.blt n j = false := by
        cases hb : Nat.blt n j with
        | false => rfl
        | true => rw [Nat.blt_eq] at hb; omega
      rw [← wxh (n := n) (by omega)]
      simp [getO, hb]
end
def linT:List Oper->List PEnt->List (Nat×AV)->List (Nat×AV)
 |o::l,p::ps,T=>linT l ps (putT o.dst p.u T)
 |_,_,T=>T
def linO:List PEnt->List (Nat×AObj)->List (Nat×AObj)
 |p::ps,O=>linO ps (p.l++O)
 |[],O=>O
def dstF(opl:List Oper)(j:Nat):Option Nat:=match opl[j]? with
 |some o=>o.dst
 |none=>none
def uF(plan:List PEnt)(j:Nat):AV:=match plan[j]? with
 |some p=>p.u
 |none=>.any
def lF(plan:List PEnt)(j:Nat):List (Nat×AObj):=match plan[j]? with
 |some p=>p.l
 |none=>[]
theorem wr5:∀(l:List Oper) (ps:List PEnt) (T:List (Nat×AV)) (o:Oper) (p:PEnt),l.length=ps.length->linT (l++[o]) (ps++[p]) T=putT o.dst p.u (linT l ps T)
 |[],[],T,o,p,_=>rfl
 |_::l,_::ps,T,o,p,h=>by simp only[List.cons_append,linT];exact wr5 l ps _ o p (by simpa using h)
 |[],_::_,_,_,_,h=>by simp at h
 |_::_,[],_,_,_,h=>by simp at h
theorem wr6:∀(ps:List PEnt) (O:List (Nat×AObj)) (p:PEnt),linO (ps++[p]) O=p.l++linO ps O
 |[],O,p=>rfl
 |_::ps,O,p=>by simp only[List.cons_append,linO];exact wr6 ps _ p
theorem wr2(opl:List Oper)(plan:List PEnt)(T0:List (Nat×AV))(hl:opl.length=plan.length):∀j,j<=opl.length->lk (linT (opl.take j) (plan.take j) T0)=getT (dstF opl) (uF plan) (lk T0) (λ_=>true) j
 |0,_=>by funext d;simp[linT,getT]
 |j+1,h=>by
  have h1:j<opl.length:=by omega
  have h2:j<plan.length:=by omega
  rw[List.take_succ_eq_append_getElem h1,List.take_succ_eq_append_getElem h2,wr5 _ _ _ _ _ (by simp;omega),wk5,wr2 opl plan T0 hl j (by omega)];funext d;have e1:dstF opl j=opl[j].dst:=by simp[dstF,h1]
  have e2:uF plan j=plan[j].u:=by simp[uF,h2]
  simp only[getT,true_and,e1,e2]
  cases opl[j].dst with
  |none=>simp[putF]
  |some x=>simp[putF,up]
theorem wr3(plan:List PEnt)(O0:List (Nat×AObj)):∀j,j<=plan.length->lk (linO (plan.take j) O0)=getO (lF plan) (lk O0) (λ_=>true) j
 |0,_=>by funext d;simp[linO,getO]
 |j+1,h=>by
  have h2:j<plan.length:=by omega
  rw[List.take_succ_eq_append_getElem h2,wr6];funext r;rw[wc7,wr3 plan O0 j (by omega)];have e2:lF plan j=plan[j].l:=by simp[lF,h2]
  simp[getO,e2]
def hide{α:Type}(h:List Nat)(f:Nat->Option α)(i:Nat):Option α:=match hasN h i with
 |true=>none
 |false=>f i
def wby(C:Ctx)(N:Nat)(opl:List Oper)(hT hO:List Nat)(k:Nat)(o:Oper)(p:PEnt)(T:List (Nat×AV))(O:List (Nat×AObj)):Prop:=
 ((o.guard=none/\p.want=true)∨(∃d b want,gslot opl o=some (d,want)/\hide hT (lk T) d=some (.bool b)/\(b==want)=p.want)∨∃d want,gslot opl o=some (d,want)/\hide hT (lk T) d=some (.tuple [])/\p.want=false)/\
 ((p.want=true/\way C N o (hide hT (lk T)) (hide hO (lk O)) k p.u p.l)∨(p.want=false/\p.u= .tuple []/\p.l=[]/\wba N o.dst=true))
def DAll(C:Ctx)(N:Nat)(opl:List Oper):Nat->List Oper->List PEnt->List (List Nat×List Nat)->List (Nat×AV)->List (Nat×AObj)->Prop
 |k,o::l,p::ps,h::hs,T,O=>wby C N opl h.1 h.2 k o p T O/\DAll C N opl (k+16) l ps hs (putT o.dst p.u T) (p.l++O)
 |_,[],[],[],_,_=>True
 |_,_,_,_,_,_=>False
theorem DAll.len{C:Ctx}{N:Nat}{opl:List Oper}:∀ {l:List Oper} {ps:List PEnt} {hs:List (List Nat×List Nat)} {k:Nat} {T:List (Nat×AV)} {O:List (Nat×AObj)},DAll C N opl k l ps hs T O->l.length=ps.length
 |_::_,_::_,_::_,_,_,_,h=>by simp[DAll.len h.2]
 |[],[],[],_,_,_,_=>rfl
 |[],[],_::_,_,_,_,h=>h.elim
 |[],_::_,_,_,_,_,h=>h.elim
 |_::_,[],_,_,_,_,h=>h.elim
 |_::_,_::_,[],_,_,_,h=>h.elim
def hF(hid:List (List Nat×List Nat))(i:Nat):List Nat×List Nat:=match hid[i]? with
 |some h=>h
 |none=>([],[])
theorem DAll.get{C:Ctx}{N:Nat}{opl:List Oper}:∀ {l:List Oper} {ps:List PEnt} {hs:List (List Nat×List Nat)} {k:Nat} {T:List (Nat×AV)} {O:List (Nat×AObj)},DAll C N opl k l ps hs T O->
  ∀(j:Nat) o p,l[j]?=some o->ps[j]?=some p->wby C N opl (hF hs j).1 (hF hs j).2 (k+16 * j) o p (linT (l.take j) (ps.take j) T) (linO (ps.take j) O)
 |_::_,_::_,_::_,k,T,O,h,0,o,p,h1,h2=>by
  simp at h1 h2;subst h1;subst h2;simpa[linT,linO,hF] using h.1
 |x::l,y::ps,z::hs,k,T,O,h,j+1,o,p,h1,h2=>by
  have:=DAll.get h.2 j o p (by simpa using h1) (by simpa using h2);have e:k+16 * (j+1)=k+16+16 * j:=by omega
  rw[e];simpa[linT,linO,hF] using this
 |[],[],[],_,_,_,_,j,o,p,h1,_=>by simp at h1
 |[],[],_::_,_,_,_,h,_,_,_,_,_=>h.elim
 |[],_::_,_,_,_,_,h,_,_,_,_,_=>h.elim
 |_::_,[],_,_,_,_,h,_,_,_,_,_=>h.elim
 |_::_,_::_,[],_,_,_,h,_,_,_,_,_=>h.elim
def ancF(anc:List (List Nat))(i:Nat):List Nat:=match anc[i]? with
 |some l=>l
 |none=>[]
def aftF(opl:List Oper)(i:Nat):List Edge:=match opl[i]? with
 |some o=>o.after.toList
 |none=>[]
def chkA(opl:List Oper)(anc:List (List Nat))(n:Nat):Bool:=(List.range n).all λi=>
 (ancF anc i).all (λj=>Nat.blt j i && (aftF opl i).any λe=>Region.binds .any e && (Nat.beq e.on j || hasN (ancF anc e.on) j)) && (aftF opl i).all λe=> !Region.binds .any e || Nat.blt e.on i
def dom(plan:List PEnt)(j:Nat):List Nat:=(lF plan j).map Prod.fst
def wea(opl:List Oper)(plan:List PEnt)(hid:List (List Nat×List Nat))(i j:Nat):Bool:=
 (match dstF opl j with
  |some d=>hasN (hF hid i).1 d
  |none=>true) && (dom plan j).all (hasN (hF hid i).2)
def wlz(opl:List Oper)(i j:Nat):Bool:=match dstF opl i,dstF opl j with
 |some d,some d'=> !Nat.beq d d'
 |_,_=>true
def chkB(opl:List Oper)(plan:List PEnt)(anc:List (List Nat))(hid:List (List Nat×List Nat))(n:Nat):Bool:=(List.range n).all λi=>(List.range i).all λj=>
 hasN (ancF anc i) j || (wlz opl i j && (dom plan i).all (λr=> !hasN (dom plan j) r) && wea opl plan hid i j && wea opl plan hid j i)
def chkC(plan:List PEnt)(anc:List (List Nat))(nx n:Nat):Bool:=(List.range n).all λi=>(dom plan i).all λr=>Nat.blt r nx || (i::ancF anc i).any λj=>Nat.ble (nx+16 * j) r && Nat.blt r (nx+16 * j+16)
theorem wgl{α:Type}:∀(l:List (Nat×α)) (r:Nat),lk l r≠none↔r∈l.map Prod.fst
 |[],r=>by simp[lk]
 |p::l,r=>by
  rw[wax,List.map_cons,List.mem_cons]
  by_cases h:p.1=r
  .simp[h]
  .simp only[h,if_false,wgl l r]
   constructor
   .exact .inr
   .rintro(h' | h')
    .exact absurd h'.symm h
    .exact h'
theorem wkx:∀(n:Nat) (L:List Nat),L.Nodup->(∀i∈L,i<n)->L.length<=n
 |0,L,_,h=>by cases L with
  |nil=>simp
  |cons x l=>have:=h x (by simp);omega
 |n+1,L,hn,h=>by
  have h1:=wkx n (L.erase n) (hn.erase n) λi hi=>by
   have:=(hn.mem_erase_iff.1 hi);have:=h i this.2;omega
  have:=List.length_erase (a:=n) (l:=L);split at this<;>omega
theorem wt1{w:World}{M:Nat->Prop}{bs:Nat->Option Hd}{N:Nat}{T:Nat->Option AV}{a:Act}{o:Oper}{opl:List Oper}(hF:FRep w M bs N T a){d:Nat}{want b:Bool}(hg:gslot opl o=some (d,want))(hT:T d=some (.bool b)):
  Region.wanted o (yielded opl.toArray a.tmps)=(b==want):=by
 unfold gslot at hg;split at hg
 .rename_i j w hj;split at hg
  .rename_i x hx;split at hg
   .rename_i d' hd;simp only[sI7,pI7] at hg;obtain⟨rfl,rfl⟩:=hg;obtain⟨v,hv,hV⟩:=hF.2.2 d' _ hT
    cases hV;simp only[Region.wanted,hj,yielded,List.getElem?_toArray,hx,Option.bind_some,hd];simp only[hv]
    cases b<;>cases w<;>rfl
   .cases hg
  .cases hg
 .cases hg
theorem wzh{w:World}{M:Nat->Prop}{bs:Nat->Option Hd}:V w M bs undef (.tuple []):=.tuple rfl λj v u h=>by simp at h
theorem wt0{w:World}{M:Nat->Prop}{bs:Nat->Option Hd}{N:Nat}{T:Nat->Option AV}{a:Act}{o:Oper}{opl:List Oper}(hF:FRep w M bs N T a){d:Nat}{want:Bool}(hg:gslot opl o=some (d,want))(hT:T d=some (.tuple [])):
  Region.wanted o (yielded opl.toArray a.tmps)=false:=by
 unfold gslot at hg;split at hg
 .rename_i j w hj;split at hg
  .rename_i x hx;split at hg
   .rename_i d' hd;simp only[sI7,pI7] at hg;obtain⟨rfl,rfl⟩:=hg;obtain⟨v,hv,hV⟩:=hF.2.2 d' _ hT
    cases hV;simp only[Region.wanted,hj,yielded,List.getElem?_toArray,hx,Option.bind_some,hd,hv];rfl
   .cases hg
  .cases hg
 .cases hg
theorem wxe{α:Type}{h:List Nat}{f g:Nat->Option α}(hs:∀d,hasN h d=false->f d=g d):Sub (hide h f) g:=by
 intro d x hx;unfold hide at hx;split at hx
 .cases hx
 .rename_i hh;rw[← hs d hh];exact hx
theorem wsn{ls:Nat->List (Nat×AObj)}{O0:Nat->Option AObj}{D:Nat->Bool}{r:Nat}(h0:O0 r=none):∀ {n:Nat},(∀j,j<n->D j=true->lk (ls j) r=none)->getO ls O0 D n r=none
 |0,_=>h0
 |n+1,h=>by
  simp only[getO];rw[wsn h0 (λj hj=>h j (by omega))];split
  .rename_i hd;rw[h n (by omega) hd];rfl
  .rfl
theorem wlj{l:Array Bool}{i:Nat}(h:i<l.size)(d d':Bool):l.getD i d=l.getD i d':=by simp[Array.getD,h]
section
variable {C:Ctx} {N:Nat} {E:Ent} {opl:List Oper} {plan:List PEnt} {anc:List (List Nat)} {hid:List (List Nat×List Nat)} {T0:List (Nat×AV)} {O0:List (Nat×AObj)} {nx:Nat} {Q:Exit->Act->World->Prop}
theorem w7u(hA:chkA opl anc opl.length=true)(hB:chkB opl plan anc hid opl.length=true)(hC:chkC plan anc nx opl.length=true)(hs:DAll C N opl nx opl plan hid T0 O0)(hO0:∀r,nx<=r->lk O0 r=none)
  (hend:∀bs a w,Rep C E N (getT (dstF opl) (uF plan) (lk T0) (λ_=>true) opl.length) (getO (lF plan) (lk O0) (λ_=>true) opl.length) bs a w->(∀r,nx+16 * opl.length<=r->bs r=none)->Q .normal a w):
  ∀(fuel:Nat) (listed:Array Bool) (L:List Nat) (a:Act) (w:World) (bs:Nat->Option Hd),listed.size=opl.length->L.Nodup->L.length+fuel=opl.length->(∀i,listed.getD i false=true↔i∈L)->(∀i∈L,i<opl.length)->
   (∀i∈L,∀j∈ancF anc i,j∈L)->Rep C E N (getT (dstF opl) (uF plan) (lk T0) (λi=>listed.getD i false) opl.length) (getO (lF plan) (lk O0) (λi=>listed.getD i false) opl.length) bs a w->
   (∀r,nx<=r->(∀j∈L,¬ (nx+16 * j<=r/\r<nx+16 * j+16))->bs r=none)->wpAny C.P .any opl.toArray Q fuel listed a w:=by
 have hlen:=hs.len;have A1:∀i,i<opl.length->∀j∈ancF anc i,j<i/\∃e∈aftF opl i,Region.binds .any e=true/\(e.on=j∨j∈ancF anc e.on):=by
  intro i hi j hj;have:=List.all_eq_true.1 hA i (List.mem_range.2 hi);simp only[bA7] at this;have h1:=List.all_eq_true.1 this.1 j hj;simp only[bA7,Nat.blt_eq] at h1;refine⟨h1.1,?_⟩;obtain⟨e,he,hb⟩:=List.any_eq_true.1 h1.2;simp only[bA7,Bool.or_eq_true] at hb;refine⟨e,he,hb.1,?_⟩
  rcases hb.2 with h | h
  .exact .inl (Nat.eq_of_beq_eq_true h)
  .exact .inr ((wbl _ _).1 h)
 have A2:∀i,i<opl.length->∀e∈aftF opl i,Region.binds .any e=true->e.on<i:=by
  intro i hi e he hb;have:=List.all_eq_true.1 hA i (List.mem_range.2 hi);simp only[bA7] at this;have h1:=List.all_eq_true.1 this.2 e he;rw[hb] at h1;simpa[Nat.blt_eq] using h1
 have B1:∀i j,i<opl.length->j<i->j∈ancF anc i∨(wlz opl i j=true/\(∀r∈dom plan i,r ∉ dom plan j)/\wea opl plan hid i j=true/\wea opl plan hid j i=true):=by
  intro i j hi hj;have:=List.all_eq_true.1 (List.all_eq_true.1 hB i (List.mem_range.2 hi)) j (List.mem_range.2 hj);simp only[Bool.or_eq_true,bA7] at this
  rcases this with h | ⟨⟨⟨h1,h2⟩,h3⟩,h4⟩
  .exact .inl ((wbl _ _).1 h)
  .refine .inr ⟨h1,λr hr hr'=>?_,h3,h4⟩;have:=List.all_eq_true.1 h2 r hr;rw[(wbl _ _).2 hr'] at this
   cases this
 have C1:∀i,i<opl.length->∀r,lk (lF plan i) r≠none->r<nx∨∃j,(j=i∨j∈ancF anc i)/\nx+16 * j<=r/\r<nx+16 * j+16:=by
  intro i hi r hr;have:=List.all_eq_true.1 (List.all_eq_true.1 hC i (List.mem_range.2 hi)) r ((wgl _ _).1 hr);simp only[Bool.or_eq_true,Nat.blt_eq] at this
  rcases this with h | h
  .exact .inl h
  .obtain⟨j,hj,hb⟩:=List.any_eq_true.1 h;simp only[bA7,Nat.blt_eq,Nat.ble_eq] at hb;exact .inr ⟨j,by simpa using hj,hb⟩
 intro fuel
 induction fuel with
 |zero=>
  intro listed L a w bs hsz hnd hL hmem hlt hdown hr hfr;have all:∀i,i<opl.length->i∈L:=by
   intro i hi;apply Classical.byContradiction;intro hn;have:=wkx opl.length (i::L) (List.nodup_cons.2 ⟨hn,hnd⟩) (λx hx=>by
    rcases List.mem_cons.1 hx with rfl | h
    .exact hi
    .exact hlt x h)
   simp at this hL;omega
  refine⟨?_,?_⟩
  .apply List.eq_nil_iff_forall_not_mem.2;intro i hi;obtain⟨h0,o,ho,_⟩:=mem_ready.1 hi;have hi':i<opl.length:=by
    have:=(Array.getElem?_eq_some_iff.1 ho).1;simpa using this
   have:=(hmem i).2 (all i hi');rw[wlj (by omega) true false,this] at h0
   cases h0
  .refine hend bs a w ?_ λr hr'=>hfr r (by omega) λj hj=>by have:=hlt j hj;omega
   have e1:getT (dstF opl) (uF plan) (lk T0) (λi=>listed.getD i false) opl.length=getT (dstF opl) (uF plan) (lk T0) (λ_=>true) opl.length:=by
    funext d;exact wjn _ _ _ λj hj _=>(hmem j).2 (all j hj)
   have e2:getO (lF plan) (lk O0) (λi=>listed.getD i false) opl.length=getO (lF plan) (lk O0) (λ_=>true) opl.length:=by
    funext d;exact wjo _ _ λj hj _=>(hmem j).2 (all j hj)
   rw[← e1, ← e2];exact hr
 |succ fuel ih=>
  intro listed L a w bs hsz hnd hL hmem hlt hdown hr hfr;refine⟨λhnil=>?_,λi hi=>?_⟩
  .have all:∀i,i<opl.length->i∈L:=by
    intro i
    induction i using Nat.strongRecOn with
    |_ i ihh=>
     intro hi;apply Classical.byContradiction;intro hn;have:i∈Region.ready .any opl.toArray listed:=by
      refine mem_ready.2 ⟨?_,opl[i],by simp[hi],λe he hb=>?_⟩
      .rw[wlj (by omega) true false]
       cases hg:listed.getD i false with
       |false=>rfl
       |true=>exact absurd ((hmem i).1 hg) hn
      .have h1:=A2 i hi e (by simp[aftF,hi];exact he) hb;exact(hmem _).2 (ihh _ h1 (by omega))
     rw[hnil] at this
     cases this
   have:=wkx L.length (List.range opl.length) List.nodup_range (λx hx=>by
    have h1:=List.mem_range.1 hx;have:opl.length=L.length+(fuel+1):=hL.symm;exact absurd (wkx opl.length L hnd hlt) (by
     have h2:opl.length<=L.length:=by
      have h3:∀(n:Nat) (L:List Nat),(∀i,i<n->i∈L)->n<=L.length:=by
       intro n
       induction n with
       |zero=>intro L _;exact zL7 _
       |succ n ihn=>
        intro L hL';have:=ihn (L.erase n) (λi hi=>(List.mem_erase_of_ne (by omega)).2 (hL' i (by omega)));have hm:=hL' n (by omega);rw[List.length_erase_of_mem hm] at this;have:0<L.length:=List.length_pos_of_mem hm;omega
      exact h3 _ _ all
     omega))
   simp at this;omega
  .obtain⟨h0,o,ho,hall⟩:=mem_ready.1 hi;have ho':opl[i]?=some o:=by simpa using ho
   have hi':i<opl.length:=(List.getElem?_eq_some_iff.1 ho').1;have hip:i<plan.length:=by omega
   have hDi:listed.getD i false=false:=by rw[wlj (by omega) false true];exact h0
   have hnL:i ∉ L:=λh=>by rw[(hmem i).2 h] at hDi;cases hDi
   have hp:=List.getElem?_eq_getElem hip;generalize hpe:plan[i]=p at hp;have hanc:∀j∈ancF anc i,j∈L:=by
    intro j hj;obtain⟨_,e,he,hb,hh⟩:=A1 i hi' j hj;have he':e∈o.after:=by simpa[aftF,ho'] using he
    have:=(hmem _).1 (hall e he' hb)
    rcases hh with rfl | h
    .exact this
    .exact hdown _ this j h
   have hup:∀j∈L,i ∉ ancF anc j:=λj hj h=>hnL (hdown j hj i h);obtain⟨hguard,hstep⟩:=hs.get i o p ho' hp
   -- the places that are seen
   have sT:Sub (hide (hF hid i).1 (lk (linT (opl.take i) (plan.take i) T0))) (getT (dstF opl) (uF plan) (lk T0) (λi=>listed.getD i false) opl.length):=by
    refine wxe λd hd=>?_;rw[wr2 opl plan T0 hlen i (by omega), ← wxf (n:=opl.length) _ _ _ (by omega)];refine wjn _ _ _ λj hj hdj=>?_
    rcases Nat.lt_trichotomy j i with h | rfl | h
    .rcases B1 i j hi' h with hb | ⟨_,_,hb,_⟩
     .have hbt:Nat.blt j i=true:=by rw[Nat.blt_eq];exact h
      show Nat.blt j i=listed.getD j false;rw[hbt];exact((hmem j).2 (hanc j hb)).symm
     .simp only[wea,bA7,hdj] at hb;rw[hb.1] at hd;cases hd
    .show Nat.blt j j=listed.getD j false;rw[hDi]
     cases hb:Nat.blt j j with
     |false=>rfl
     |true=>rw[Nat.blt_eq] at hb;omega
    .have hbf:Nat.blt j i=false:=by
      cases hb:Nat.blt j i with
      |false=>rfl
      |true=>rw[Nat.blt_eq] at hb;omega
     show Nat.blt j i=listed.getD j false;rw[hbf]
     cases hg:listed.getD j false with
     |false=>rfl
     |true=>
      have hjL:=(hmem j).1 hg
      rcases B1 j i hj h with hb | ⟨_,_,_,hb⟩
      .exact absurd hb (hup j hjL)
      .simp only[wea,bA7,hdj] at hb;rw[hb.1] at hd;cases hd
   have sO:Sub (hide (hF hid i).2 (lk (linO (plan.take i) O0))) (getO (lF plan) (lk O0) (λi=>listed.getD i false) opl.length):=by
    refine wxe λd hd=>?_;rw[wr3 plan O0 i (by omega), ← wxh (n:=opl.length) _ _ (by omega)];have seen:∀j,lk (lF plan j) d≠none->wea opl plan hid i j=true->False:=λj h1 h2=>by
     simp only[wea,bA7] at h2;have:=List.all_eq_true.1 h2.2 d ((wgl _ _).1 h1);rw[this] at hd;cases hd
    refine wjo _ _ λj hj hdj=>?_
    rcases Nat.lt_trichotomy j i with h | rfl | h
    .rcases B1 i j hi' h with hb | ⟨_,_,hb,_⟩
     .have hbt:Nat.blt j i=true:=by rw[Nat.blt_eq];exact h
      show Nat.blt j i=listed.getD j false;rw[hbt];exact((hmem j).2 (hanc j hb)).symm
     .exact(seen j hdj hb).elim
    .show Nat.blt j j=listed.getD j false;rw[hDi]
     cases hb:Nat.blt j j with
     |false=>rfl
     |true=>rw[Nat.blt_eq] at hb;omega
    .have hbf:Nat.blt j i=false:=by
      cases hb:Nat.blt j i with
      |false=>rfl
      |true=>rw[Nat.blt_eq] at hb;omega
     show Nat.blt j i=listed.getD j false;rw[hbf]
     cases hg:listed.getD j false with
     |false=>rfl
     |true=>
      have hjL:=(hmem j).1 hg
      rcases B1 j i hj h with hb | ⟨_,_,_,hb⟩
      .exact absurd hb (hup j hjL)
      .exact(seen j hdj hb).elim
   have eu:uF plan i=p.u:=by simp[uF,hp]
   have el:lF plan i=p.l:=by simp[lF,hp]
   have ed:dstF opl i=o.dst:=by simp[dstF,ho']
   have eD:(λj=>(listed.setIfInBounds i true).getD j false)=λj=>listed.getD j false || j==i:=by
    funext j
    by_cases hj:i=j
    .subst hj;simp[show i<listed.size by omega]
    .rw[getD_set_ne false hj];have:(j==i)=false:=by simpa using λh=>hj h.symm
     simp[this]
   have aT:getT (dstF opl) (uF plan) (lk T0) (λj=>listed.getD j false || j==i) opl.length=putF o.dst p.u (getT (dstF opl) (uF plan) (lk T0) (λi=>listed.getD i false) opl.length):=by
    funext d;rw[wxg (D:=λi=>listed.getD i false) _ _ _ hDi hi' (λj h1 h2 h3 h4 h5=>?_),ed,eu]
    .cases o.dst with
     |none=>simp[putF]
     |some x=>simp[putF,up]
    .rcases B1 j i h2 h1 with hb | ⟨hb,_⟩
     .exact hup j ((hmem j).1 h3) hb
     .simp[wlz,h4,h5,Nat.beq_refl] at hb
   have aO:getO (lF plan) (lk O0) (λj=>listed.getD j false || j==i) opl.length=upL (getO (lF plan) (lk O0) (λi=>listed.getD i false) opl.length) p.l:=by
    funext r;rw[wxi (D:=λi=>listed.getD i false) _ _ hDi hi' (λj h1 h2 h3 h4=>?_),el,wqk]
    rcases B1 j i h2 h1 with hb | ⟨_,hb,_⟩
    .exact absurd hb (hup j ((hmem j).1 h3))
    .cases hx:lk (lF plan i) r with
     |none=>rfl
     |some y=>exact absurd ((wgl _ _).1 (by rw[hx];simp)) (hb r ((wgl _ _).1 h4))
   have next:∀bs' a' w',(∀r,¬ (nx+16 * i<=r/\r<nx+16 * i+16)->bs' r=bs r)->
     Rep C E N (putF o.dst p.u (getT (dstF opl) (uF plan) (lk T0) (λi=>listed.getD i false) opl.length)) (upL (getO (lF plan) (lk O0) (λi=>listed.getD i false) opl.length) p.l) bs' a' w'->
     wpAny C.P .any opl.toArray Q fuel (listed.setIfInBounds i true) a' w':=by
    intro bs' a' w' hb hr';refine ih _ (i::L) a' w' bs' (by simpa using hsz) (List.nodup_cons.2 ⟨hnL,hnd⟩) (by simp;omega) (λj=>?_) (λj hj=>?_) (λj hj x hx=>?_) ?_ (λr hr1 hr2=>?_)
    .have this:(listed.setIfInBounds i true).getD j false=(listed.getD j false || j==i):=congrFun eD j;rw[this];simp only[Bool.or_eq_true,beq_iff_eq,List.mem_cons,hmem j];exact Or.comm
    .rcases List.mem_cons.1 hj with rfl | h
     .exact hi'
     .exact hlt j h
    .rcases List.mem_cons.1 hj with rfl | h
     .exact List.mem_cons_of_mem _ (hanc x hx)
     .exact List.mem_cons_of_mem _ (hdown j h x hx)
    .rw[eD,aT,aO];exact hr'
    .rw[hb r (hr2 i (by simp))];exact hfr r hr1 λj hj=>hr2 j (List.mem_cons_of_mem _ hj)
   have hwant:Region.wanted o (yielded opl.toArray a.tmps)=p.want:=by
    rcases hguard with⟨hg,hw⟩ | ⟨d,b,want,hg,hT,hw⟩ | ⟨d,want,hg,hT,hw⟩
    .rw[hw];simp[Region.wanted,hg]
    .rw[← hw];exact wt1 hr.1 hg (sT _ _ hT)
    .rw[hw];exact wt0 hr.1 hg (sT _ _ hT)
   unfold wpOp;rw[ho];simp only[hwant]
   rcases hstep with⟨hw,hst⟩ | ⟨hw,hu,hl,hd⟩
   .simp only[hw,if_true];refine .inl (hst E _ _ bs a w _ Q sT sO hr (λr h1 h2=>⟨?_,?_⟩) next)
    .refine wsn (hO0 r (by omega)) λj hj hDj=>?_
     cases hx:lk (lF plan j) r with
     |none=>rfl
     |some y=>
      have hne:j≠i:=λh=>by subst h;rw[hDi] at hDj;cases hDj
      rcases C1 j hj r (by rw[hx];simp) with h | ⟨x,hxj,h3,h4⟩
      .omega
      .have hxi:x=i:=by omega
       subst hxi
       rcases hxj with rfl | hxj
       .exact absurd rfl hne
       .exact absurd hxj (hup j ((hmem j).1 hDj))
    .refine hfr r (by omega) λj hj=>?_;have hne:j≠i:=λh=>by subst h;exact hnL hj
     omega
   .simp only[hw,Bool.false_eq_true,if_false];refine next bs _ _ (λ_ _=>rfl) ?_
    rw[hu,hl];exact⟨hr.1.putF hd wzh,hr.2⟩
theorem AWP.drawn{m id:Nat}{Q:Exit->St->Prop}{dec:List Nat}{T1:List (Nat×AV)}{O1:List (Nat×AObj)}{nx1:Nat}(plan:List PEnt)(anc:List (List Nat))(hid:List (List Nat×List Nat))
  (hA:chkA opl anc opl.length=true) (hB:chkB opl plan anc hid opl.length=true) (hC:chkC plan anc nx opl.length=true) (hs:DAll C N opl nx opl plan hid T0 O0)
  (hT:linT opl plan T0=T1) (hO:linO plan O0=O1) (hnx:nx+16 * opl.length=nx1) (k:Q .normal ⟨T1,O1,nx1,[]⟩):AWP C m N (.region id opl.toArray true) Q ⟨T0,O0,nx,dec⟩:=by
 intro E hE bs a w hr;have hlen:=hs.len;subst hnx;have hS:Step w (MB E (lk O0) bs) bs { w with drawn:=w.drawn+1 } (MB E (lk O0) bs) bs/\WRep C E (lk O0) bs { w with drawn:=w.drawn+1 }:=by
  refine hr.1.2.next (λ_=>False) (λ_ _ h=>h) (λ_ _ _ h=>.inl h) (λ_ h=>h.elim) (λ_ _ _=>rfl) (lR7 _) (λ_ h=>.inl h) (λ_ _ _ h=>.inl ⟨h,λ_ _ _ h=>h⟩) hr.1.2.sep ?_ rfl ⟨rfl,λ_=>Nat.le_succ _⟩ rfl;intro r t sz n f b c ho hb;have:=hr.1.2.frz r t sz n f b c ho hb;exact⟨λh=>this (.inr h),λh=>this (.inl h)⟩
 refine wp_region_any C.mixed (w7u (E:=E) hA hB hC hs (λr h=>(hr.2.1 r h).1) (λbs' a' w' hr' hf'=>?_) opl.toArray.size (Array.replicate opl.toArray.size false) [] a _ bs (by simp) List.nodup_nil (by simp) (λi=>?_) (by simp) (by simp) ?_ (λr h _=>(hr.2.1 r h).2))
 .have e1:getT (dstF opl) (uF plan) (lk T0) (λ_=>true) opl.length=lk T1:=by
   rw[← hT, ← wr2 opl plan T0 hlen opl.length (lR7 _),List.take_length,hlen,List.take_length]
  have e2:getO (lF plan) (lk O0) (λ_=>true) opl.length=lk O1:=by
   rw[← hO,hlen, ← wr3 plan O0 plan.length (lR7 _),List.take_length]
  rw[e1,e2] at hr';refine⟨⟨T1,O1,_,[]⟩,bs',k,hr',λr h=>⟨?_,hf' r h⟩,Nat.le_trans hr.2.2 (Nat.le_add_right _ _)⟩;show lk O1 r=none;have h':nx+16 * opl.length<=r:=h;rw[← e2];refine wsn ((hr.2.1 r (show nx<=r by omega)).1) λj hj _=>?_
  cases hx:lk (lF plan j) r with
  |none=>rfl
  |some y=>
   have:=List.all_eq_true.1 (List.all_eq_true.1 hC j (List.mem_range.2 hj)) r ((wgl _ _).1 (by rw[hx];simp));simp only[Bool.or_eq_true,Nat.blt_eq] at this
   rcases this with h | h
   .omega
   .obtain⟨x,hxm,hb⟩:=List.any_eq_true.1 h;simp only[bA7,Nat.blt_eq,Nat.ble_eq] at hb;have hxl:x<=j:=by
     rcases List.mem_cons.1 hxm with rfl | hm
     .exact lR7 _
     .have:=List.all_eq_true.1 hA j (List.mem_range.2 hj);simp only[bA7] at this;have h1:=List.all_eq_true.1 this.1 x hm;simp only[bA7,Nat.blt_eq] at h1;omega
    omega
 .by_cases hi:i<opl.length<;>simp[Array.getD,hi]
 .have hD:(λi=>(Array.replicate opl.toArray.size false).getD i false)=λ_=>false:=by
   funext i
   by_cases hi:i<opl.length<;>simp[Array.getD,hi]
  rw[hD];have e1:∀n,getT (dstF opl) (uF plan) (lk T0) (λ_=>false) n=lk T0:=by
   intro n;induction n with
   |zero=>rfl
   |succ n ih=>funext d;simp[getT,ih]
  have e2:∀n,getO (lF plan) (lk O0) (λ_=>false) n=lk O0:=by
   intro n;induction n with
   |zero=>rfl
   |succ n ih=>funext d;simp[getO,ih]
  rw[e1,e2];exact⟨hr.1.1.step hS.1,hS.2⟩
end
def rnO(σ:Nat->Option Nat):AObj->AObj
 |.cells cs t=>.cells (AV.rnL σ cs) t
 |.row t sz n f fr=>.row t sz n (λi=>AV.rnL σ (f i)) fr
 |.amap es=>.amap (es.map λp=>(p.1.rn σ,p.2.rn σ))
 |.siter s p=>.siter s p
 |.miter m n l=>match σ m with
  |some m'=>.miter m' n l
  |none=>.dead
 |.dead=>.dead
theorem rnO_le{σ:Nat->Option Nat}(h:∀j,∃k,σ j=some k)(o:AObj):OLe σ o (rnO σ o):=by
 cases o with
 |miter m n l=>obtain⟨k,hk⟩:=h m;simp[rnO,hk,OLe]
 |_=>simp[rnO,OLe]
def sigN(pass:List Nat)(k j:Nat):Nat:=match pass[j]? with
 |some r=>r
 |none=>k+(j - pass.length)
theorem wq2(pass:List Nat)(k j:Nat):sig pass k j=some (sigN pass k j):=by
 unfold sig sigN
 cases pass[j]?<;>rfl
def ndB:List Nat->Bool
 |[]=>true
 |x::l=> !(hasN l x) && ndB l
theorem wfh:∀ {l:List Nat},ndB l=true->l.Nodup
 |[],_=>List.nodup_nil
 |x::l,h=>by
  simp only[ndB,bA7,Bool.not_eq_true'] at h;refine List.nodup_cons.2 ⟨λhx=>?_,wfh h.2⟩;rw[(wbl _ _).2 hx] at h
  cases h.1
def wmc(pass:List Nat)(k:Nat)(Os:List (Nat×AObj)):List (Nat×AObj):=Os.map λp=>(sigN pass k p.1,rnO (sig pass k) p.2)
theorem wr1{α:Type}:∀ {l:List (Nat×α)},(l.map Prod.fst).Nodup->∀ {p:Nat×α},p∈l->lk l p.1=some p.2
 |[],_,p,h=>by simp at h
 |q::l,hn,p,h=>by
  simp only[List.map_cons,List.nodup_cons] at hn;rw[wax]
  rcases List.mem_cons.1 h with rfl | h'
  .simp
  .have:q.1≠p.1:=λe=>hn.1 (by rw[e];exact List.mem_map.2 ⟨p,h',rfl⟩);simp[this,wr1 hn.2 h']
theorem wbx.back(pass:List Nat)(k:Nat)(Os:List (Nat×AObj))(h:ndB (Os.map Prod.fst)=true):wbx (sig pass k) Os (wmc pass k Os):=by
 have hn:=wfh h;have:∀l:List (Nat×AObj),(∀p∈l,p∈Os)->wbx (sig pass k) Os (wmc pass k l):=by
  intro l
  induction l with
  |nil=>exact λ_=>trivial
  |cons p l ih=>
   intro hs;exact⟨⟨p.1,p.2,wq2 _ _ _,wr1 hn (hs p (by simp)),rnO_le (λj=>⟨_,wq2 _ _ _⟩) _⟩,ih λq hq=>hs q (List.mem_cons_of_mem _ hq)⟩
 exact this Os λ_ h=>h
def ov(l:List (Nat×AObj)):List (Nat×AObj)->List (Nat×AObj)
 |[]=>l
 |p::O=>match hasN (l.map Prod.fst) p.1 with
  |true=>ov l O
  |false=>ov (l++[p]) O
theorem we0:∀(O l:List (Nat×AObj)),lk (ov l O)=lk (l++O)
 |[],l=>by simp[ov]
 |p::O,l=>by
  simp only[ov];split
  .rename_i h;rw[we0 O l];funext r;rw[wc7,wc7,wax]
   by_cases hr:p.1=r
   .subst hr
    cases hx:lk l p.1 with
    |some y=>rfl
    |none=>
     have:=(wgl l p.1).2 ((wbl _ _).1 h);exact absurd hx this
   .simp[hr]
  .rw[we0 O (l++[p])];simp
theorem AOps.congrO{C:Ctx}{m N:Nat}{ops:Array Oper}{l:List Oper}{Q:Exit->St->Prop}{T:List (Nat×AV)}{O O':List (Nat×AObj)}{nx:Nat}{dec:List Nat}(h:lk O'=lk O)(k:AOps C m N ops l Q ⟨T,O',nx,dec⟩):AOps C m N ops l Q ⟨T,O,nx,dec⟩:=by
 intro E hE bs a w hr;refine k E hE bs a w ?_;obtain⟨h1,h2,h3⟩:=hr;refine⟨?_,?_,h3⟩
 .show Rep C E N (lk T) (lk O') bs a w;rw[h];exact h1
 .show ∀r,nx<=r->lk O' r=none/\bs r=none;rw[h];exact h2
abbrev ADet(C:Ctx)(f:FuncId)(args:List AV)(objs:List AObj)(U:AV)(Os:List (Nat×AObj)):Prop:=wal C f args objs λu O=>u=U/\O=Os
section
variable {C:Ctx} {m N:Nat} {ops:Array Oper} {rest:List Oper} {Q:Exit->St->Prop} {o:Oper} {T:List (Nat×AV)} {O:List (Nat×AObj)} {nx:Nat} {dec:List Nat}
theorem AOps.callD{fo:Operand}{args:Array Operand}{at_:Array TypeId}{f:FuncId}{cap as:List AV}{cobjs:List AObj}{U u2:AV}{Os O2:List (Nat×AObj)}{T2:List (Nat×AV)}{nx2:Nat}(pass:List Nat)
  (hop:o.op= .call { callee:=.value fo,args:=args,argTypes:=at_ }) (hg:o.guard=none) (hd:wba N o.dst=true) (hf:evO (lk T) fo=some (.func f cap)) (ha:evL (lk T) args.toList=some as)
  (hnd:ndB pass=true) (hO:wcp (idxN pass) (lk O) pass cobjs) (hc:ADet C f (AV.rnL (idxN pass) (as++cap)) cobjs U Os) (hnk:ndB (Os.map Prod.fst)=true)
  (hu:putT o.dst (U.rn (sig pass nx)) T=T2) (hO2:ov (wmc pass nx Os) (ov (deads pass) O)=O2) (hnx:nx+16=nx2)
  (k:AOps C m N ops rest Q ⟨T2,O2,nx2,dec⟩):AOps C m N ops (o::rest) Q ⟨T,O,nx,dec⟩:=by
 have _:=u2;have hO':∀ {l:List Nat} {l':List AObj},wcp (idxN pass) (lk O) l l'->wer (idxN pass) O l l':=by
  intro l
  induction l with
  |nil=>intro l' h;cases l' with
   |nil=>trivial
   |cons _ _=>exact h.elim
  |cons x l ih=>intro l' h;cases l' with
   |nil=>exact h.elim
   |cons y l'=>exact⟨h.1,ih h.2⟩
 refine AOps.call (s:=⟨T,O,nx,dec⟩) pass hop hg hd hf ha (wfh hnd) (hO' hO) hc ?_;rintro u O' ⟨rfl,rfl⟩;refine⟨_,_,rfl,wbx.back pass nx O' hnk,?_⟩;subst hu;subst hO2;subst hnx;refine AOps.congrO (O':=ov (wmc pass nx O') (ov (deads pass) O)) ?_ k;rw[we0];funext r;rw[wc7,wc7,we0]
end
def wcy(opl:List Oper)(hT:List Nat)(T:List (Nat×AV))(o:Oper)(w:Bool):Prop:=
 (o.guard=none/\w=true)∨(∃d b want,gslot opl o=some (d,want)/\hide hT (lk T) d=some (.bool b)/\(b==want)=w)∨∃d want,gslot opl o=some (d,want)/\hide hT (lk T) d=some (.tuple [])/\w=false
section
variable {C:Ctx} {N:Nat} {opl:List Oper} {hT hO:List Nat} {k:Nat} {o:Oper} {T:List (Nat×AV)} {O:List (Nat×AObj)} {te:TE}
theorem wcy.none(h:o.guard= .none):wcy opl hT T o true:=.inl ⟨h,rfl⟩
theorem wcy.some{d:Nat}{b want w:Bool}(b':Bool)(h1:gslot opl o= .some (d,want))(h2:hide hT (lk T) d= .some (.bool b))(hb:b=b')(h3:(b'==want)=w):wcy opl hT T o w:=.inr (.inl ⟨d,b,want,h1,h2,by rw[hb];exact h3⟩)
theorem wcy.undef{d:Nat}{want:Bool}(h1:gslot opl o= .some (d,want))(h2:hide hT (lk T) d= .some (.tuple [])):wcy opl hT T o false:=.inr (.inr ⟨d,want,h1,h2,rfl⟩)
theorem wby.pure(hte:TE.ok C.P te)(hn:∀t ti,lk te t=some ti->wa8 ti.desc=false->ti.sz=1)(hg:wcy opl hT T o true){u:AV}{vc:Prop}(h:wb7 te (hide hT (lk T)) (hide hO (lk O)) o.op=some (u,vc))(hd:wba N o.dst=true)(hvc:vc):
  wby C N opl hT hO k o ⟨true,u,[]⟩ T O:=⟨hg,.inl ⟨rfl,way.pure hte hn h hd hvc⟩⟩
theorem wby.eff(hte:TE.ok C.P te)(hg:wcy opl hT T o true){u:AV}{l:List (Nat×AObj)}{vc:Prop}(h:wb8 te (hide hT (lk T)) (hide hO (lk O)) k o.op=some (u,l,vc))(hd:wba N o.dst=true)(hvc:vc):
  wby C N opl hT hO k o ⟨true,u,l⟩ T O:=⟨hg,.inl ⟨rfl,way.eff hte h hd hvc⟩⟩
theorem wby.skip(hg:wcy opl hT T o false)(hd:wba N o.dst=true):wby C N opl hT hO k o ⟨false,.tuple [],[]⟩ T O:=⟨hg,.inr ⟨rfl,rfl,rfl,hd⟩⟩
end
def wdy(n:Nat)(f:Nat->List AV):List (AV×AV):=(List.range n).map λi=>((f i).getD 0 .any,(f i).getD 1 .any)
def mapA(O:Nat->Option AObj):AV->Option (List (AV×AV))
 |.map r=>match O r with
  |some (.amap es)=>some es
  |_=>none
 |.vmap n f=>some (wdy n f)
 |_=>none
theorem wr0{O O':Nat->Option AObj}(hO:Sub O O'){u:AV}{es:List (AV×AV)}(h:mapA O u=some es):mapA O' u=some es:=by
 cases u with
 |map r=>
  replace h:(match O r with | some (.amap es)=>some es | _=>none)=some es:=h
  show (match O' r with | some (.amap es)=>some es | _=>none)=some es
  cases hr:O r with
  |none=>rw[hr] at h;cases h
  |some o=>rw[hr] at h;rw[hO r o hr];exact h
 |vmap n f=>exact h
 |_=>cases h
theorem getD_V{w:World}{M:Nat->Prop}{v:Value}{l:List AV}{j:Nat}(h:∀u,l[j]?=some u->V w M nob v u)(bs:Nat->Option Hd):V w M bs v (l.getD j .any):=by
 rw[List.getD_eq_getElem?_getD]
 cases hl:l[j]? with
 |none=>exact .any
 |some u=>exact(h u hl).lift
theorem wwq{C:Ctx}{E:Ent}{O:Nat->Option AObj}{bs:Nat->Option Hd}{w:World}(hW:WRep C E O bs w){v:Value}{u:AV}(hv:V w (MB E O bs) bs v u){es:List (AV×AV)}(h:mapA O u=some es):
  ∃b ents clock,v= .map (some b)/\w.heap[b]?=some (.map ents clock)/\wim w (MB E O bs) bs ents es:=by
 cases hv with
 |map hbr=>
  rename_i r b' c';replace h:(match O r with | some (.amap es)=>some es | _=>none)=some es:=h
  split at h
  .rename_i es' ho
   cases h;obtain⟨b,c,ents,clock,h1,h2,h3,h4⟩:=hW.obj r _ ho;rw[h1] at hbr;injection hbr with hbr;injection hbr with e1 e2;subst e1;exact⟨b,ents,clock,rfl,h2,h3⟩
  .cases h
 |vmap hM hb hm hn hk hv=>
  rename_i b n f ents clock
  cases h;refine⟨b,ents,clock,rfl,hm,by simp[wdy,hn],λj e p hj hp=>?_⟩;have hjn:j<n:=by rw[← hn];exact(Array.getElem?_eq_some_iff.1 hj).1
  simp only[wdy,List.getElem?_map,List.getElem?_range hjn,Option.map_some,sI7] at hp;subst hp;exact⟨getD_V (λu hu=>hk j e u hj hu) bs,getD_V (λu hu=>hv j e u hj hu) bs⟩
 |_=>cases h
theorem AOps.step{C:Ctx}{m N:Nat}{ops:Array Oper}{rest:List Oper}{Q:Exit->St->Prop}{o:Oper}{T T2:List (Nat×AV)}{O O2:List (Nat×AObj)}{nx nx2:Nat}{dec:List Nat}{u:AV}{l:List (Nat×AObj)}
  (hg:o.guard=none) (h:way C N o (lk T) (lk O) nx u l) (hl:(l.all λp=>Nat.blt p.1 (nx+16))=true) (hT:putT o.dst u T=T2) (hO:l++O=O2) (hnx:nx+16=nx2)
  (k:AOps C m N ops rest Q ⟨T2,O2,nx2,dec⟩):AOps C m N ops (o::rest) Q ⟨T,O,nx,dec⟩:=by
 subst hT;subst hO;subst hnx;intro E hE bs a w hr;refine wpList_plain hg λK hK=>?_;refine h E _ _ bs a w _ _ (Sub.refl _) (Sub.refl _) hr.1 (λr h1 _=>hr.2.1 r h1) λbs' a' w' hb hr'=>hK _ _ (k E hE bs' a' w' ⟨?_,λr hrr=>?_,Nat.le_trans hr.2.2 (Nat.le_add_right _ _)⟩)
 .show Rep C E N (lk (putT o.dst u T)) (lk (l++O)) bs' a' w';rw[wk5,lk_upL];exact hr'
 .have hrr':nx+16<=r:=hrr;obtain⟨q1,q2⟩:=hr.2.1 r (show nx<=r by omega);refine⟨?_,by rw[hb r (by omega)];exact q2⟩;show lk (l++O) r=none;rw[wc7];have:lk l r=none:=by
   cases hx:lk l r with
   |none=>rfl
   |some y=>
    have:=List.all_eq_true.1 hl _ (wk7 l r y hx);simp[Nat.blt_eq] at this;omega
  rw[this];simpa using q1
def isK:TypeDesc->AV->Bool
 |.string,.str _=>true
 |.int k,.int k' _=>decide (k=k')
 |_,_=>false
theorem whi{w:World}{M:Nat->Prop}{bs:Nat->Option Hd}{d:TypeDesc}{v:Value}{u:AV}(h:V w M bs v u)(hk:isK d u=true):MapKept.IsKey d v:=by
 unfold isK at hk;split at hk
 .cases h;trivial
 .cases h;simpa[MapKept.IsKey,eq_comm] using hk
 .cases hk
theorem w8m{a b:ByteArray}(h:a.data.toList=b.data.toList):a=b:=by
 cases a;cases b;simp only[ByteArray.mk.injEq];exact Array.toList_inj.1 h
theorem wse{w:World}{M:Nat->Prop}{bs:Nat->Option Hd}{d:TypeDesc}{v v':Value}{u u':AV}(h:V w M bs v u)(h':V w M bs v' u')(hk:isK d u=true)(hk':isK d u'=true):v=v'↔u=u':=by
 have cs:(∃s,u= .str s)∨∃k n,u= .int k n:=by
  unfold isK at hk;split at hk
  .exact .inl ⟨_,rfl⟩
  .exact .inr ⟨_,_,rfl⟩
  .cases hk
 have cs':(∃s,u'= .str s)∨∃k n,u'= .int k n:=by
  unfold isK at hk';split at hk'
  .exact .inl ⟨_,rfl⟩
  .exact .inr ⟨_,_,rfl⟩
  .cases hk'
 rcases cs with⟨s,rfl⟩ | ⟨k,n,rfl⟩
 .rcases cs' with⟨s',rfl⟩ | ⟨k',n',rfl⟩
  .cases h with | str h=>cases h' with | str h'=>
   constructor
   .intro e;cases e;rw[← h, ← h']
   .intro e;cases e;rw[w8m (h.trans h'.symm)]
  .cases h;cases h';constructor<;>intro e<;>cases e
 .rcases cs' with⟨s',rfl⟩ | ⟨k',n',rfl⟩
  .cases h;cases h';constructor<;>intro e<;>cases e
  .cases h;cases h';constructor<;>intro e<;>cases e<;>rfl
def wgc:Value->Option AV
 |.agg vs=>match avcs vs.toList with
  |some cs=>some (.agg cs)
  |none=>none
 |v=>avc v
theorem wqe{w:World}{M:Nat->Prop}{bs:Nat->Option Hd}{v:Value}{u:AV}(h:wgc v=some u):V w M bs v u:=by
 unfold wgc at h;split at h
 .split at h
  .rename_i vs cs hc;simp only[sI7] at h;subst h;have:=wgx (w:=w) (M:=M) (bs:=bs) _ _ hc;exact .agg this.1 this.2.1 this.2.2
  .cases h
 .exact wtd h
def Holds(es:List (AV×AV))(k:AV):Option AV->Prop
 |some v=>∃j:Nat,es[j]?=some (k,v)
 |none=>∀p∈es,p.1≠k
section
variable {C:Ctx} {N:Nat} {o:Oper} {T:Nat->Option AV} {O:Nat->Option AObj} {k:Nat} {te:TE}
theorem wxz {w : World} {M : Nat → Prop} {bs : Nat → Option Hd} {d : TypeDesc} {ents : Array MapEntry} {es : List (AV × AV)} (hE : wim w M bs ents es) (hks : (es.all fun p => isK d p.1) = true) {kv : Value} {ku : AV} (hkv : V w M bs kv ku) (hk : isK d ku = true) :
    (Instr.findNow d kv ents.toList 0 = some none ∧ ∀ p ∈ es, p.1 ≠ ku) ∨ ∃ (j : Nat) (e : MapEntry) (v : AV), Instr.findNow d kv ents.toList 0 = some (some (j, e.val)) ∧ ents[j]? = some e ∧ e.key = kv ∧ es[j]? = some (ku, v) ∧ V w M bs e.val v := by
  have hall : ∀ (j : Nat) (e : MapEntry) (p : AV × AV), ents[j]? = some e → es[j]? = some p → isK d p.1 = true ∧ V w M bs e.key p.1 ∧ V w M bs e.val p.2 := fun j e p he hp =>
    ⟨List.all_eq_true.1 hks p (List.mem_of_getElem? hp), hE.2 j e p he hp⟩
  have hkeys : ∀ x ∈ ents.toList, MapKept.IsKey d x.key := by
    intro x hx
    obtain ⟨j, hj⟩ := List.getElem?_of_mem hx
    have hj' : ents[j]? = some x := by simpa using hj
    have hlt : j < es.length := by rw [← hE.1]; exact (Array.getElem?_eq_some_iff.1 hj').1
    obtain ⟨a, b, _⟩ := hall j x _ hj' (List.getElem?_eq_getElem hlt)
    exact whi b a
  rcases MapKept.findNow_spec (whi hkv hk) ents.toList 0 hkeys with ⟨h1, h2⟩ | ⟨j, e, h1, h2, h3⟩
  · refine .inl ⟨h1, fun p hp he => ?_⟩
    obtain ⟨j, hj⟩ := List.getElem?_of_mem hp
    have hlt : j < ents.size := by rw [hE.1]; exact (List.getElem?_eq_some_iff.1 hj).1
    obtain ⟨a, b, _⟩ := hall j _ _ (Array.getElem?_eq_getElem hlt) hj
    exact h2 _ (by simp) ((wse b hkv a hk).2 he)
  · have hj' : ents[j]? = some e := by simpa using h2
    have hlt : j < es.length := by rw [← hE.1]; exact (Array.getElem?_eq_some_iff.1 hj').1
    obtain ⟨a, b, c⟩ := hall j e _ hj' (List.getElem?_eq_getElem hlt)
    have he : es[j].1 = ku := (wse b hkv a hk).1 h3
    refine .inr ⟨j, e, es[j].2, by simpa using h1, hj', h3, ?_, c⟩
    rw [List.getElem?_eq_getElem hlt, ← he]
theorem way.lookup(hte:TE.ok C.P te){mt kt et:TypeId}{mx kx:Operand}{ok:Bool}{mu:AV}{es:List (AV×AV)}{ku u0 u:AV}{ti tk tie:TI}(res:Option AV)
  (hop:o.op= .lookup mt mx kx ok) (hd:wba N o.dst=true) (hm:evO T mx=some mu) (hk:evO T kx=some ku) (ht:lk te mt=some ti) (htd:ti.desc= .map kt et) (hkt:lk te kt=some tk) (het:lk te et=some tie)
  (hO:mapA O mu=some es) (hkK:isK tk.desc ku=true) (hz:∀(w:World) (M:Nat->Prop) (bs:Nat->Option Hd),V w M bs tie.zero u0) (hks:(es.all λp=>isK tk.desc p.1)=true)
  (hu:(match ok with | true=>.tuple [res.getD u0,.bool res.isSome] | false=>res.getD u0)=u) (hH:Holds es ku res) (huniq:∀(j j':Nat) v v',es[j]?=some (ku,v)->es[j']?=some (ku,v')->v=v'):way C N o T O k u []:=by
 intro E T' O' bs a w K Q hT hOs hr hf hK;have hmv:=wbe hr.1 (wbg hT hm);have hkv:=wbe hr.1 (wbg hT hk);generalize hmx:a.eval mx=mv at hmv;generalize hkx:a.eval kx=kv at hkv;obtain⟨b,ents,clock,rfl,h2,h3⟩:=wwq hr.2 hmv (wr0 hOs hO);have hund:=wbt hte (w:=w) ht;have hkd:=(hte kt tk hkt).1;have hzr:=wgh hte (w:=w) het;have fin:∀v,(Instr.lookup mt (.map (some b)) kv ok).run C.P w= .ok v w->V w (MB E O' bs) bs v u->o.wp C.P a w K Q:=by
  intro v hv hV;have:(execOp a.eval o).run C.P w= .ok (.value v) w:=by simp[execOp,hop,hmx,hkx,hv]
  unfold Oper.wp;rw[this];exact hK bs _ _ (λ_ _=>rfl) ⟨hr.1.putF hd hV,hr.2⟩
 have hkey:=whi hkv hkK
 rcases wxz h3 hks hkv hkK with⟨f1,f2⟩ | ⟨j,e,v,f1,f2,f3,f4,f5⟩
 .have hres:res=none:=by
   cases res with
   |none=>rfl
   |some v=>obtain⟨j,hj⟩:=hH;exact absurd rfl (f2 _ (List.mem_of_getElem? hj))
  subst hres;refine fin (if ok then .tuple #[tie.zero,.bool false] else tie.zero) ?_ ?_
  .simp[Instr.lookup,hund,htd,MapKept.run_getObj_map h2,MapKept.run_checkKey hkd hkey,MapKept.run_findKey hkd f1,hzr,Result.andThen]
  .subst hu;have hz':V w (MB E O' bs) bs tie.zero u0:=hz _ _ _
   cases ok with
   |false=>exact hz'
   |true=>
    refine .tuple rfl λj v u hv hu=>?_
    match j with
    |0=>simp at hv hu;subst hv;subst hu;exact hz'
    |1=>simp at hv hu;subst hv;subst hu;exact .bool
    |j+2=>simp at hv
 .have hres:res=some v:=by
   cases res with
   |none=>exact absurd rfl (hH _ (List.mem_of_getElem? f4))
   |some v'=>obtain⟨j',hj'⟩:=hH;rw[huniq _ _ _ _ hj' f4]
  subst hres;refine fin (if ok then .tuple #[e.val,.bool true] else e.val) ?_ ?_
  .simp[Instr.lookup,hund,htd,MapKept.run_getObj_map h2,MapKept.run_checkKey hkd hkey,MapKept.run_findKey hkd f1,Result.andThen]
  .subst hu
   cases ok with
   |false=>exact f5
   |true=>
    refine .tuple rfl λj v u hv hu=>?_
    match j with
    |0=>simp at hv hu;subst hv;subst hu;exact f5
    |1=>simp at hv hu;subst hv;subst hu;exact .bool
    |j+2=>simp at hv
theorem way.mapUpdate(hte:TE.ok C.P te){mt kt et:TypeId}{mx kx vx:Operand}{r:Nat}{es es':List (AV×AV)}{ku vu:AV}{ti tk:TI}
  (hop:o.op= .mapUpdate mt mx kx vx) (hd:o.dst=none) (hm:evO T mx=some (.map r)) (hk:evO T kx=some ku) (hv:evO T vx=some vu) (ht:lk te mt=some ti) (htd:ti.desc= .map kt et) (hkt:lk te kt=some tk)
  (hO:O r=some (.amap es)) (hkK:isK tk.desc ku=true) (hks:(es.all λp=>isK tk.desc p.1)=true)
  (hH:(∀(j:Nat) v,es[j]?=some (ku,v)->es'=es.set j (ku,vu))/\((∀p∈es,p.1≠ku)->es'=es++[(ku,vu)])):way C N o T O k .any [(r,.amap es')]:=by
 intro E T' O' bs a w K Q hT hOs hr hf hK;have hmv:=wbe hr.1 (wbg hT hm);have hkv:=wbe hr.1 (wbg hT hk);have hvv:=wbe hr.1 (wbg hT hv);have hOr:=hOs _ _ hO;obtain⟨b,c,ents,clock,h1,h2,h3,h4⟩:=hr.2.obj r _ hOr;generalize hmx:a.eval mx=mv at hmv;generalize hkx:a.eval kx=kv at hkv;generalize hvx:a.eval vx=vv at hvv
 cases hmv with | map hbr=>
 rw[h1] at hbr;injection hbr with hbr;injection hbr with e1 e2;subst e1;subst e2;have hund:=wbt hte (w:=w) ht;have hkd:=(hte kt tk hkt).1;have hkey:=whi hkv hkK;have fin:∀ents' clock',(Instr.mapUpdate mt (.map (some b)) kv vv).run C.P w= .ok () { w with heap:=w.heap.setIfInBounds b (.map ents' clock') }->
   (∀w' M',Step w (MB E O' bs) bs w' M' bs->wim w' M' bs ents' es')->wqd ents' clock'->o.wp C.P a w K Q:=by
  intro ents' clock' hrun hent hborn;have:(execOp a.eval o).run C.P w= .ok .skip { w with heap:=w.heap.setIfInBounds b (.map ents' clock') }:=by simp[execOp,hop,hmx,hkx,hvx,hrun]
  unfold Oper.wp;rw[this];obtain⟨g1,g2⟩:=MapKept.heap_set (o':=.map ents' clock') h2
  obtain⟨hS,hW⟩:=hr.2.modify (x:=r) (o:=.amap es') hOr rfl h1 (w':={ w with heap:=w.heap.setIfInBounds b (.map ents' clock') }) (λb' hb'=>g2 b' hb') (by simp) rfl ⟨rfl,λ_=>lR7 _⟩ rfl rfl
   (λhS=>⟨b,c,ents',clock',h1,g1,hent _ _ hS,hborn⟩)
  refine hK bs _ _ (λ_ _=>rfl) ⟨?_,hW⟩;rw[hd];exact hr.1.step hS
 rcases wxz h3 hks hkv hkK with⟨f1,f2⟩ | ⟨j,e,v,f1,f2,f3,f4,f5⟩
 .have he:=hH.2 f2;subst he;refine fin (ents.push ⟨kv,vv,clock⟩) (clock+1) ?_ (λw' M' hS=>⟨by simp[h3.1],λi e p hi hp=>?_⟩) ⟨by simp[h4.1],λi e hi=>?_⟩
  .simp[Instr.mapUpdate,hund,htd,MapKept.run_getObj_map h2,MapKept.run_checkKey hkd hkey,MapKept.run_findKey hkd f1,MapKept.run_setObj_map _ h2,Result.andThen]
  .rw[Array.getElem?_push] at hi;split at hi
   .rename_i hie;simp only[sI7] at hi;subst hi;rw[hie,h3.1] at hp;simp at hp;subst hp;exact⟨hkv.step hS,hvv.step hS⟩
   .have hlt:i<es.length:=by rw[← h3.1];exact(Array.getElem?_eq_some_iff.1 hi).1
    rw[List.getElem?_append_left hlt] at hp;obtain⟨x,y⟩:=h3.2 i e p hi hp;exact⟨x.step hS,y.step hS⟩
  .rw[Array.getElem?_push] at hi;split at hi
   .rename_i hie;simp only[sI7] at hi;subst hi;rw[hie];exact h4.1
   .exact h4.2 i e hi
 .have he:=hH.1 j v f4;subst he;subst f3;refine fin (ents.modify j λe'=>{ e' with key:=e.key,val:=vv }) clock ?_ (λw' M' hS=>⟨by simp[h3.1],λi e' p hi hp=>?_⟩) ⟨by simp[h4.1],λi e' hi=>?_⟩
  .simp[Instr.mapUpdate,hund,htd,MapKept.run_getObj_map h2,MapKept.run_checkKey hkd hkey,MapKept.run_findKey hkd f1,f2,MapKept.run_keyThatStays hkey,MapKept.run_setObj_map _ h2,Result.andThen]
  .rw[Array.getElem?_modify] at hi;split at hi
   .rename_i hji;subst hji;rw[f2] at hi;simp only[Option.map_some,sI7] at hi;subst hi;have hlt:j<es.length:=(List.getElem?_eq_some_iff.1 f4).1;rw[List.getElem?_set_self hlt] at hp;simp only[sI7] at hp;subst hp;exact⟨hkv.step hS,hvv.step hS⟩
   .rename_i hji;rw[List.getElem?_set_ne hji] at hp;obtain⟨x,y⟩:=h3.2 i e' p hi hp;exact⟨x.step hS,y.step hS⟩
  .rw[Array.getElem?_modify] at hi;split at hi
   .rename_i hji;subst hji;rw[f2] at hi;simp only[Option.map_some,sI7] at hi;subst hi;exact h4.2 j e f2
   .exact h4.2 i e' hi
end
mutual
def nref:AV->Bool
 |.any=>true
 |.bool _=>true
 |.int _ _=>true
 |.str _=>true
 |.nilptr=>true
 |.vptr _=>true
 |.nil=>true
 |.empty=>true
 |.view _ _ _=>true
 |.nilmap=>true
 |.vmap _ _=>true
 |.nilfunc=>true
 |.nilIface=>true
 |.iface _ v=>nref v
 |.agg l=>nrefL l
 |.tuple l=>nrefL l
 |.func _ l=>nrefL l
 |_=>false
def nrefL:List AV->Bool
 |[]=>true
 |u::l=>nref u && nrefL l
end
theorem wgi:∀ {l:List AV},nrefL l=true->∀(j:Nat) u,l[j]?=some u->nref u=true
 |[],_,j,u,h=>by simp at h
 |x::l,hl,0,u,h=>by simp[nrefL] at hl h;subst h;exact hl.1
 |x::l,hl,j+1,u,h=>by simp only[nrefL,bA7] at hl;exact wgi hl.2 j u (by simpa using h)
theorem V.free{w w':World}{M M':Nat->Prop}(far:∀b,b<w.heap.size->¬ M b->¬ M' b)(heap:∀b,b<w.heap.size->¬ M b->w'.heap[b]?=w.heap[b]?)(size:w.heap.size<=w'.heap.size)
  {bs:Nat->Option Hd} {v:Value} {u:AV} (h:V w M bs v u) (bs':Nat->Option Hd):nref u=true->V w' M' bs' v u:=by
 have st:∀ {bs0:Nat->Option Hd} {v:Value} {u:AV},V w M bs0 v u->V w' M' bs0 v u:=λh=>h.step_ far heap size _ λ_ _ h=>h
 induction h with
 |any=>exact λ_=>.any
 |bool=>exact λ_=>.bool
 |int=>exact λ_=>.int
 |str h=>exact λ_=>.str h
 |nilptr=>exact λ_=>.nilptr
 |ptr h=>intro hn;simp[nref] at hn
 |eptr h=>intro hn;simp[nref] at hn
 |@vptr bs ad g cv hM hb hc h1 hv ih=>
  exact λ_=>.vptr cv (far _ hb hM) (Nat.lt_of_lt_of_le hb size) (λj hj=>(wl4 (by rw[wef];exact heap _ hb hM)).trans (hc j hj)) h1 λj u hu=>st (hv j u hu)
 |nil=>exact λ_=>.nil
 |empty=>exact λ_=>.empty
 |@view bs A n c sz f ad cv hn hcm hA hl hc h1 hv ih=>
  intro _;refine .view ad cv hn hcm (λh0=>?_) hl (λi hi j hj=>?_) h1 λi hi j u hu=>st (hv i hi j u hu)
  .obtain⟨e,hM,hb⟩:=hA h0;exact⟨e,far _ hb hM,Nat.lt_of_lt_of_le hb size⟩
  .obtain⟨e,hM,hb⟩:=hA (by omega);exact(wl4 (by rw[wef];exact heap _ hb hM)).trans (hc i hi j hj)
 |own h hn hcm=>intro hn;simp[nref] at hn
 |ownnil h hn=>intro hn;simp[nref] at hn
 |sub h hn hcm hA=>intro hn;simp[nref] at hn
 |subnil h hn ho=>intro hn;simp[nref] at hn
 |nilmap=>exact λ_=>.nilmap
 |vmap hM hb hm hn hk hv ihk ihv=>exact λ_=>.vmap (far _ hb hM) (Nat.lt_of_lt_of_le hb size) ((heap _ hb hM).trans hm) hn (λi e u h1 h2=>st (hk i e u h1 h2)) (λi e u h1 h2=>st (hv i e u h1 h2))
 |map h=>intro hn;simp[nref] at hn
 |func hl hv ih=>
  intro hn;simp only[nref] at hn;exact .func hl λj v u h1 h2=>ih j v u h1 h2 (wgi hn j u h2)
 |nilfunc=>exact λ_=>.nilfunc
 |nilIface=>exact λ_=>.nilIface
 |iface h ih=>intro hn;simp only[nref] at hn;exact .iface (ih hn)
 |agg hl h1 hv ih=>
  intro hn;simp only[nref] at hn;exact .agg hl h1 λj v u h1 h2=>ih j v u h1 h2 (wgi hn j u h2)
 |tuple hl hv ih=>
  intro hn;simp only[nref] at hn;exact .tuple hl λj v u h1 h2=>ih j v u h1 h2 (wgi hn j u h2)
def frz(r sz n:Nat)(f:Nat->List AV):AV->AV
 |.own r' n'=>match Nat.beq r' r && Nat.ble n' n with
  |true=>.view sz n' f
  |false=>.own r' n'
 |u=>u
end Go.Eng
namespace Go.Eng
open Go.RowKit
theorem nob_of{bs:Nat->Option Hd}(h:∀r,bs r=none):bs=nob:=funext λr=>h r
theorem wal.below{C:Ctx}[hC:C.Loose]{f:FuncId}{args:List AV}{u:AV}(he:wg2 C.P f)
  (h:∀(w:World) (M:Nat->Prop) (cargs:List Value),C.laid w->C.gsz<=w.heap.size->(∀b,M b->b<w.heap.size)->cargs.length=args.length->(∀(j:Nat) v x,cargs[j]?=some v->args[j]?=some x->V w M nob v x)->
   Calls C.P f cargs.toArray w λe w'=>∃v,e= .returned v/\Below w.heap.size w w'/\V w' M nob v u):wal C f args [] λu' O=>u'=u/\O=[]:=by
 refine⟨he,λE bs w cargs h1 h2 h3 h4 h5 h6 h7=>?_⟩;have hb:bs=nob:=nob_of λr=>h5 r (zL7 _);subst hb;have hl:lkL []=lk ([]:List (Nat×AObj)):=by funext r;simp[lkL,lk]
 rw[hl] at h4 h7;refine(h w (MB E (lk []) nob) cargs h4.laid (Nat.le_trans h4.gle h4.size) (λb hb=>?_) h6 h7).mono ?_
 .rcases hb with hb | ⟨r,o,c,ho,_⟩
  .exact Nat.lt_of_lt_of_le (h4.outlt b hb) h4.size
  .simp[lk] at ho
 .rintro e w' ⟨v,rfl,hB,hV⟩;refine⟨v,u,[],nob,rfl,⟨rfl,rfl⟩,?_,hV,λr _=>⟨rfl,rfl⟩⟩
  exact {
   obj:=λr o ho=>by simp[lk] at ho
   sep:=λr _ o _ _ _ _ ho=>by simp[lk] at ho
   out:=h4.out
   frz:=λr _ _ _ _ _ _ ho=>by simp[lk] at ho
   high:=h4.high
   lt:=λr b c hb=>by simp[nob] at hb
   outlt:=h4.outlt
   keep:=λb hb hm=>(hB.block b (Nat.lt_of_lt_of_le hb h4.size)).trans (h4.keep b hb hm)
   old:=h4.old
   size:=Nat.le_trans h4.size hB.size
   pre:=h4.pre
   os:=hB.os.trans h4.os
   tape:=TL.trans ⟨hB.tape,λh=>by rw[hC.cnt] at h;cases h⟩ h4.tape
   output:=hB.output.trans h4.output
   laid:=C.keep w w' (λb hb=>hB.block b (Nat.lt_of_lt_of_le hb (Nat.le_trans h4.gle h4.size))) h4.laid
   gle:=h4.gle }
theorem V.str_iff{w:World}{M:Nat->Prop}{bs:Nat->Option Hd}{v:Value}{s:List UInt8}(h:V w M bs v (.str s)):v= .string ⟨s.toArray⟩:=by
 cases h with | str h=>
 rename_i b;subst h
 cases b;simp
theorem V.int_iff{w:World}{M:Nat->Prop}{bs:Nat->Option Hd}{v:Value}{k:IntKind}{n:Int}(h:V w M bs v (.int k n)):v= .int k n:=by cases h;rfl
theorem V.newview{w:World}{M:Nat->Prop}{bs:Nat->Option Hd}(hM:∀b,M b->b<w.heap.size){vs:Array Value}{t:TypeId}{n:Nat}{f:Nat->List AV}(hn:vs.size=n)(hm:n<=maxLen)(ho:∀(i:Nat) (v:Value),vs[i]?=some v->v.oneCell'=true)
  (hv:∀(i:Nat) (v:Value),vs[i]?=some v->∃u,f i=[u]/\V (w.alloc (.cells vs t)) M nob v u):V (w.alloc (.cells vs t)) M bs (.slice (some ⟨w.heap.size,0,none⟩) n n) (.view 1 n f):=by
 have hh:(w.alloc (.cells vs t)).heap[w.heap.size]?=some (.cells vs t (0,0)):=heap_alloc_new w _;have hsz:w.heap.size<(w.alloc (.cells vs t)).heap.size:=(Array.getElem?_eq_some_iff.1 hh).1;refine .view ⟨w.heap.size,0,none⟩ (λi _=>vs.getD i undef) (lR7 _) hm (λ_=>⟨rfl,λh=>Nat.lt_irrefl _ (hM _ h),hsz⟩) (λi hi=>?_) (λi hi j hj=>?_) (λi hi j hj=>?_) λi hi j u hu=>?_
 .obtain⟨u,hu,_⟩:=hv i _ (Array.getElem?_eq_getElem (show i<vs.size by omega));simp[hu]
 .have hi':i<vs.size:=by omega
  have hj':j=0:=by omega
  subst hj';rw[Addr.add_lit,cell_of_row _ _ _ vs t (0,0) hh];simp[hi']
 .have hi':i<vs.size:=by omega
  exact ho i _ (by simp[hi'])
 .have hi':i<vs.size:=by omega
  obtain⟨x,hx,hV⟩:=hv i _ (Array.getElem?_eq_getElem hi');rw[hx] at hu
  cases j with
  |zero=>simp at hu;subst hu;simpa[hi'] using hV
  |succ j=>simp at hu
def wbs(s:List UInt8)(i:Nat):Nat×Nat:=Utf8.decode ⟨s.toArray⟩ i
section
variable {C:Ctx} {N:Nat} {o:Oper} {T:Nat->Option AV} {O:Nat->Option AObj} {k:Nat}
theorem wu8{P:Program}{w:World}{b:Nat}{s:ByteArray}{p:Nat}(h:w.heap[b]?=some (.stringIter s p)):(getObj b).run P w= .ok (.stringIter s p) w:=by simp[getObj,Sem.run,h]
theorem w05{P:Program}{w:World}{b:Nat}{s:ByteArray}{p:Nat}(o:Obj)(h:w.heap[b]?=some (.stringIter s p)):(setObj b o).run P w= .ok () { w with heap:=w.heap.setIfInBounds b o }:=by simp[setObj,Sem.run,h]
theorem way.nextIn{x:Operand}{r pos:Nat}{s:List UInt8}(hop:o.op= .next x true)(hd:wba N o.dst=true)(hx:evO T x=some (.ptr r 0))(hO:O r=some (.siter s pos))(hp:pos<s.length):
  way C N o T O k (.tuple [.bool true,.int .i64 pos,.int .i32 (wbs s pos).1]) [(r,.siter s (pos+(wbs s pos).2))]:=by
 intro E T' O' bs a w K Q hT hOs hr hf hK;have hxv:=wbe hr.1 (wbg hT hx);have hOr:=hOs _ _ hO;obtain⟨b,c,bytes,h1,h2,h3⟩:=hr.2.obj r _ hOr;generalize hxx:a.eval x=xv at hxv
 cases hxv with | ptr hbr=>
 rw[h1] at hbr;injection hbr with hbr;injection hbr with e1 e2;subst e1;subst e2;have hbytes:bytes=⟨s.toArray⟩:=by cases bytes;simp only[ByteArray.mk.injEq];subst h3;simp
 have hsz:pos<bytes.size:=by subst hbytes;simpa[ByteArray.size] using hp
 obtain⟨g1,g2⟩:=MapKept.heap_set (o':=.stringIter bytes (pos+(wbs s pos).2)) h2;have hrun:(execOp a.eval o).run C.P w= .ok (.value (.tuple #[.bool true,.int .i64 pos,.int .i32 (wbs s pos).1])) { w with heap:=w.heap.setIfInBounds b (.stringIter bytes (pos+(wbs s pos).2)) }:=by
  have e:Utf8.decode bytes pos=wbs s pos:=by rw[hbytes];rfl
  simp only[execOp,hop,hxx,Instr.next,Sem.run_bind,wu8 h2,Result.andThen_ok,hsz,if_true,e,w05 _ h2,Sem.run_pure,goInt]
 unfold Oper.wp;rw[hrun]
 obtain⟨hS,hW⟩:=hr.2.modify (x:=r) (o:=.siter s (pos+(wbs s pos).2)) hOr rfl h1 (w':={ w with heap:=w.heap.setIfInBounds b (.stringIter bytes (pos+(wbs s pos).2)) }) (λb' hb'=>g2 b' hb') (by simp) rfl ⟨rfl,λ_=>lR7 _⟩ rfl rfl
  (λhS=>⟨b,c,bytes,h1,g1,h3⟩)
 refine hK bs _ _ (λ_ _=>rfl) ⟨(hr.1.step hS).putF hd ?_,hW⟩;refine .tuple rfl λj v u hv hu=>?_
 match j with
 |0=>simp at hv hu;subst hv;subst hu;exact .bool
 |1=>simp at hv hu;subst hv;subst hu;exact .int
 |2=>simp at hv hu;subst hv;subst hu;exact .int
 |j+3=>simp at hv
theorem way.nextOut{x:Operand}{r pos:Nat}{s:List UInt8}(hop:o.op= .next x true)(hd:wba N o.dst=true)(hx:evO T x=some (.ptr r 0))(hO:O r=some (.siter s pos))(hp:¬ pos<s.length):
  way C N o T O k (.tuple [.bool false]) []:=by
 intro E T' O' bs a w K Q hT hOs hr hf hK;have hxv:=wbe hr.1 (wbg hT hx);have hOr:=hOs _ _ hO;obtain⟨b,c,bytes,h1,h2,h3⟩:=hr.2.obj r _ hOr;generalize hxx:a.eval x=xv at hxv
 cases hxv with | ptr hbr=>
 rw[h1] at hbr;injection hbr with hbr;injection hbr with e1 e2;subst e1;subst e2;have hbytes:bytes=⟨s.toArray⟩:=by cases bytes;simp only[ByteArray.mk.injEq];subst h3;simp
 have hsz:¬ pos<bytes.size:=by subst hbytes;simpa[ByteArray.size] using hp
 have hrun:(execOp a.eval o).run C.P w= .ok (.value (.tuple #[.bool false])) w:=by
  simp only[execOp,hop,hxx,Instr.next,Sem.run_bind,wu8 h2,Result.andThen_ok,hsz,if_false,Sem.run_pure]
 unfold Oper.wp;rw[hrun];refine hK bs _ _ (λ_ _=>rfl) ⟨hr.1.putF hd ?_,hr.2⟩;refine .tuple rfl λj v u hv hu=>?_
 match j with
 |0=>simp at hv hu;subst hv;subst hu;exact .bool
 |j+1=>simp at hv
end
theorem wal.quiet{C:Ctx}{f:FuncId}{args:List AV}{objs:List AObj}{u:AV}(he:wg2 C.P f)
  (h:∀(E:Ent) (bs:Nat->Option Hd) (w:World) (cargs:List Value),WRep C E (lkL objs) bs w->cargs.length=args.length->(∀(j:Nat) v x,cargs[j]?=some v->args[j]?=some x->V w (MB E (lkL objs) bs) bs v x)->
   Calls C.P f cargs.toArray w λe w'=>∃v,e= .returned v/\w'=w/\V w (MB E (lkL objs) bs) bs v u):wal C f args objs λu' O=>u'=u/\O=enum 0 objs:=by
 refine⟨he,λE bs w cargs h1 h2 h3 h4 h5 h6 h7=>?_⟩;refine(h E bs w cargs h4 h6 h7).mono ?_;rintro e w' ⟨v,rfl,rfl,hV⟩;have hO:lk (enum 0 objs)=lkL objs:=by funext i;rw[wjd];simp[lkL]
 refine⟨v,u,enum 0 objs,bs,rfl,⟨rfl,rfl⟩,by rw[hO];exact h4,by rw[hO];exact hV,λr hr=>⟨?_,h5 r (by omega)⟩⟩;rw[hO];simp[lkL];omega
mutual
theorem wvh(ρ:Nat->Option Nat):∀(u:AV),nref u=true->u.rn ρ=u
 |.any,_=>rfl
 |.bool _,_=>rfl
 |.int _ _,_=>rfl
 |.str _,_=>rfl
 |.nilptr,_=>rfl
 |.vptr _,_=>rfl
 |.nil,_=>rfl
 |.empty,_=>rfl
 |.view _ _ _,_=>rfl
 |.nilmap,_=>rfl
 |.vmap _ _,_=>rfl
 |.nilfunc,_=>rfl
 |.nilIface,_=>rfl
 |.iface t v,h=>by simp only[nref] at h;simp only[AV.rn,wvh ρ v h]
 |.agg l,h=>by simp only[nref] at h;simp only[AV.rn,rnL_nref ρ l h]
 |.tuple l,h=>by simp only[nref] at h;simp only[AV.rn,rnL_nref ρ l h]
 |.func f l,h=>by simp only[nref] at h;simp only[AV.rn,rnL_nref ρ l h]
 |.ptr _ _,h=>by simp[nref] at h
 |.eptr _ _ _ _,h=>by simp[nref] at h
 |.own _ _,h=>by simp[nref] at h
 |.sub _ _ _ _,h=>by simp[nref] at h
 |.map _,h=>by simp[nref] at h
theorem rnL_nref(ρ:Nat->Option Nat):∀(l:List AV),nrefL l=true->AV.rnL ρ l=l
 |[],_=>rfl
 |u::l,h=>by
  simp only[nrefL,bA7] at h;simp only[AV.rnL,wvh ρ u h.1,rnL_nref ρ l h.2]
end
theorem WRep.cell{C:Ctx}{E:Ent}{O:Nat->Option AObj}{bs:Nat->Option Hd}{w:World}(hW:WRep C E O bs w){r:Nat}{cs:List AV}{t:TypeId}(hO:O r=some (.cells cs t)){v:Value}(hv:V w (MB E O bs) bs v (.ptr r 0)){j:Nat}{u:AV}(hu:cs[j]?=some u):
  ∃b x,v= .pointer (some ⟨b,0,none⟩)/\w.cell? ⟨b,j,none⟩=some x/\V w (MB E O bs) bs x u:=by
 obtain⟨b,c,vs,h1,h2,h3,h4,h5⟩:=hW.obj r _ hO
 cases hv with | ptr hb=>
 rw[h1] at hb;injection hb with hb;injection hb with e1 e2;subst e1;subst e2;have hj:j<vs.size:=by rw[h3];exact(List.getElem?_eq_some_iff.1 hu).1
 refine⟨b,vs[j],rfl,?_,h5 j _ u (Array.getElem?_eq_getElem hj) hu⟩;rw[cell_of_row w b j vs t (0,0) h2];simp[hj]
end Go.Eng
namespace Go.Eng
theorem wuq:∀(cs xs:List AV),cs.length=xs.length->wc0 cs 0 xs=some xs
 |[],[],_=>rfl
 |c::cs,x::xs,h=>by
  have:=wuq cs xs (by simpa using h);simp[wc0,this]
 |[],_::_,h=>by simp at h
 |_::_,[],h=>by simp at h
section
variable {C:Ctx} {N:Nat} {o:Oper} {T:Nat->Option AV} {O:Nat->Option AObj} {k:Nat} {te:TE}
theorem way.allocW(hte:TE.ok C.P te){t:TypeId}{ti:TI}{zs:List AV}(ht:lk te t=some ti)(hop:o.op= .alloc t)(hd:wba N o.dst=true)(hz:avcs ti.zero.cells.toList=some zs):way C N o T O k (.ptr k 0) [(k,.cells zs t)]:=by
 refine way.eff hte (vc:=True) ?_ hd trivial;rw[hop];simp only[wb8,wip,ht,hz]
theorem way.storeW(hte:TE.ok C.P te){t tt:TypeId}{ti:TI}{x y:Operand}{r:Nat}{cs new:List AV}(ht:lk te t=some ti)(hop:o.op= .store t x y)(hd:wba N o.dst=true)(hx:evO T x=some (.ptr r 0))(hy:evO T y=some (.agg new))(hO:O r=some (.cells cs tt))
  (hl:cs.length=new.length) (hs:new.length=ti.sz):way C N o T O k .any [(r,.cells new tt)]:=by
 refine way.eff hte (vc:=new.length=ti.sz) ?_ hd hs;rw[hop];simp only[wb8,hx,hy,ht,wee,hO,wuq cs new hl]
end
end Go.Eng
namespace Go.Eng
open Go.WideShapes
def keq0:AV->AV->Bool
 |.str a,.str b=>decide (a=b)
 |.int k a,.int k' b=>decide (k=k') && decide (a=b)
 |_,_=>false
def keqL:List AV->List AV->Bool
 |[],[]=>true
 |x::xs,y::ys=>keq0 x y && keqL xs ys
 |_,_=>false
def wbq(te:TE):Nat->List Field->List AV->Bool
 |_,[],[]=>true
 |i,f::fs,c::cs=>Nat.beq f.offset i && (match lk te f.type with
   |some tf=>isK tf.desc c
   |none=>false) && wbq te (i+1) fs cs
 |_,_,_=>false
def keyA(te:TE)(kt:TypeId):AV->Bool
 |.agg cs=>match lk te kt with
  |some tk=>match tk.desc with
   |.struct fs=>tk.cmp && wbq te 0 fs.toList cs
   |_=>false
  |none=>false
 |_=>false
theorem wgo{d:TypeDesc}{a:AV}(h:isK d a=true):(d= .string/\∃s,a= .str s)∨∃k n,d= .int k/\a= .int k n:=by
 unfold isK at h;split at h
 .exact .inl ⟨rfl,_,rfl⟩
 .have:=of_decide_eq_true h;subst this;exact .inr ⟨_,_,rfl,rfl⟩
 .cases h
theorem w6o{d:TypeDesc}{a b:AV}(ha:isK d a=true)(hb:isK d b=true):keq0 a b=true↔a=b:=by
 rcases wgo ha with⟨rfl,s,rfl⟩ | ⟨k,n,rfl,rfl⟩
 .rcases wgo hb with⟨_,s',rfl⟩ | ⟨k',n',h,rfl⟩
  .simp[keq0]
  .cases h
 .rcases wgo hb with⟨h,s',rfl⟩ | ⟨k',n',h,rfl⟩
  .cases h
  .cases h;simp[keq0]
theorem wg7{te:TE}{i:Nat}{fs:List Field}{c:AV}{cs:List AV}(h:wbq te i fs (c::cs)=true):∃f fs' tf,fs=f::fs'/\f.offset=i/\lk te f.type=some tf/\isK tf.desc c=true/\wbq te (i+1) fs' cs=true:=by
 cases fs with
 |nil=>simp[wbq] at h
 |cons f fs'=>
  simp only[wbq,bA7] at h;obtain⟨⟨h1,h2⟩,h3⟩:=h;split at h2
  .rename_i tf htf;exact⟨f,fs',tf,rfl,Nat.eq_of_beq_eq_true h1,htf,h2,h3⟩
  .cases h2
theorem wix{te:TE}{i:Nat}{fs:List Field}(h:wbq te i fs []=true):fs=[]:=by
 cases fs with
 |nil=>rfl
 |cons f fs=>simp[wbq] at h
theorem wla{te:TE}:∀ {fs:List Field} {i:Nat} {xs ys:List AV},wbq te i fs xs=true->wbq te i fs ys=true->(keqL xs ys=true↔xs=ys)
 |fs,i,[],ys,h1,h2=>by
  have:=wix h1;subst this
  cases ys with
  |nil=>simp[keqL]
  |cons y ys=>simp[wbq] at h2
 |fs,i,x::xs,[],h1,h2=>by
  have:=wix h2;subst this;simp[wbq] at h1
 |fs,i,x::xs,y::ys,h1,h2=>by
  obtain⟨f,fs',tf,rfl,_,htf,hk,h3⟩:=wg7 h1;obtain⟨f2,fs2,tf2,e,_,htf2,hk2,h4⟩:=wg7 h2;simp only[List.cons.injEq] at e;obtain⟨rfl,rfl⟩:=e;rw[htf] at htf2;obtain rfl:=oJ7 htf2;simp only[keqL,bA7,w6o hk hk2,wla h3 h4,List.cons.injEq]
theorem eqA_key{te:TE}{d:Nat}{t:TypeId}{tf:TI}{a b:AV}(ht:lk te t=some tf)(ha:isK tf.desc a=true)(hb:isK tf.desc b=true):eqA te (d+1) t [a] [b]=some (keq0 a b):=by
 simp only[eqA,ht]
 rcases wgo ha with⟨hd,s,rfl⟩ | ⟨k,n,hd,rfl⟩
 .rw[hd] at hb ⊢
  rcases wgo hb with⟨_,s',rfl⟩ | ⟨k',n',h,rfl⟩
  .rfl
  .cases h
 .rw[hd] at hb ⊢
  rcases wgo hb with⟨h,s',rfl⟩ | ⟨k',n',h,rfl⟩
  .cases h
  .cases h;simp[keq0]
theorem wsd{d:TypeDesc}{a:AV}(h:isK d a=true):wa8 d=false:=by
 rcases wgo h with⟨rfl,_⟩ | ⟨_,_,rfl,_⟩<;>rfl
theorem wyk{te:TE}{d:Nat}(hn:∀t ti,lk te t=some ti->wa8 ti.desc=false->ti.sz=1){xs ys:List AV}:∀(fs:List Field) (i:Nat),wbq te i fs (xs.drop i)=true->wbq te i fs (ys.drop i)=true->
  we3 (eqA te (d+1)) te xs ys fs=some (keqL (xs.drop i) (ys.drop i))
 |fs,i,h1,h2=>by
  cases hx:xs.drop i with
  |nil=>
   rw[hx] at h1;have:=wix h1;subst this
   cases hy:ys.drop i with
   |nil=>rfl
   |cons y ys'=>rw[hy] at h2;simp[wbq] at h2
  |cons x xs'=>
   rw[hx] at h1;obtain⟨f,fs',tf,rfl,hoff,htf,hk,h3⟩:=wg7 h1
   cases hy:ys.drop i with
   |nil=>rw[hy] at h2;simp[wbq] at h2
   |cons y ys'=>
    rw[hy] at h2;obtain⟨f2,fs2,tf2,e,_,htf2,hk2,h4⟩:=wg7 h2;simp only[List.cons.injEq] at e;obtain⟨rfl,rfl⟩:=e;rw[htf] at htf2;obtain rfl:=oJ7 htf2;have hs:=hn _ _ htf (wsd hk);have tx:wcq tf.sz (wce f.offset xs)=some [x]:=by rw[hs,wdn,hoff,hx];rfl
    have ty:wcq tf.sz (wce f.offset ys)=some [y]:=by rw[hs,wdn,hoff,hy];rfl
    have dx:xs.drop (i+1)=xs':=by rw[← List.drop_drop,hx];rfl
    have dy:ys.drop (i+1)=ys':=by rw[← List.drop_drop,hy];rfl
    have e1:=eqA_key (d:=d) htf hk hk2;have ih:=wyk (d:=d) hn fs' (i+1) (by rw[dx];exact h3) (by rw[dy];exact h4);rw[dx,dy] at ih
    cases fs' with
    |nil=>
     have nx:xs'=[]:=by
      cases xs' with
      |nil=>rfl
      |cons _ _=>simp[wbq] at h3
     have ny:ys'=[]:=by
      cases ys' with
      |nil=>rfl
      |cons _ _=>simp[wbq] at h4
     subst nx;subst ny;simp only[we3,htf,tx,ty,e1,keqL,Bool.and_true]
    |cons g gs=>
     simp only[we3,htf,tx,ty,e1] at ih ⊢;rw[ih];simp only[keqL]
theorem wgq{te:TE}{kt:TypeId}(hn:∀t ti,lk te t=some ti->wa8 ti.desc=false->ti.sz=1){xs ys:List AV}(h1:keyA te kt (.agg xs)=true)(h2:keyA te kt (.agg ys)=true):
  ∃tk fs,lk te kt=some tk/\tk.desc= .struct fs/\tk.cmp=true/\wbq te 0 fs.toList xs=true/\wbq te 0 fs.toList ys=true/\eqA te 8 kt xs ys=some (keqL xs ys):=by
 simp only[keyA] at h1 h2;split at h1
 .rename_i tk htk;rw[htk] at h2;simp only at h2;split at h1
  .rename_i fs hfs;rw[hfs] at h2;simp only[bA7] at h1 h2;refine⟨tk,fs,htk,hfs,h1.1,h1.2,h2.2,?_⟩;simp only[eqA,htk,hfs,h1.1];exact wyk (d:=6) hn fs.toList 0 h1.2 h2.2
  .cases h1
 .cases h1
section
variable {P:Program} {te:TE} {w:World} {M:Nat->Prop} {bs:Nat->Option Hd}
theorem wmg{v:Value}{cs:List AV}(h:V w M bs v (.agg cs)):∃vs:Array Value,v= .agg vs/\vs.size=cs.length/\(∀(j:Nat) (x:Value),vs[j]?=some x->x.oneCell'=true)/\∀(j:Nat) x u,vs[j]?=some x->cs[j]?=some u->V w M bs x u:=by
 cases h with | agg hl h1 hv=>exact⟨_,rfl,hl,h1,hv⟩
theorem wiy:∀ {fs:List Field} {i:Nat} {cs:List AV},wbq te i fs cs=true->∀(j:Nat) f,fs[j]?=some f->∃tf c,lk te f.type=some tf/\f.offset=i+j/\cs[j]?=some c/\isK tf.desc c=true
 |fs,i,[],h,j,f,hf=>by
  have:=wix h;subst this;simp at hf
 |fs,i,c::cs,h,j,f,hf=>by
  obtain⟨f0,fs',tf,rfl,hoff,htf,hk,h3⟩:=wg7 h
  cases j with
  |zero=>
   simp at hf;subst hf;exact⟨tf,c,htf,by omega,by simp,hk⟩
  |succ j=>
   obtain⟨tf',c',q1,q2,q3,q4⟩:=wiy h3 j f (by simpa using hf);exact⟨tf',c',q1,by omega,by simpa using q3,q4⟩
theorem wkj:∀ {fs:List Field} {i:Nat} {cs:List AV},wbq te i fs cs=true->fs.length=cs.length
 |fs,i,[],h=>by rw[wix h];rfl
 |fs,i,c::cs,h=>by
  obtain⟨f0,fs',tf,rfl,hoff,htf,hk,h3⟩:=wg7 h;simp[wkj h3]
theorem key_inj{fs:List Field}{vs us:Array Value}{cs ds:List AV}(h1:wbq te 0 fs cs=true)(h2:wbq te 0 fs ds=true)(s1:vs.size=cs.length)(V1:∀(j:Nat) x u,vs[j]?=some x->cs[j]?=some u->V w M bs x u)
  (s2:us.size=ds.length) (V2:∀(j:Nat) x u,us[j]?=some x->ds[j]?=some u->V w M bs x u):vs=us↔cs=ds:=by
 have l1:=wkj h1;have l2:=wkj h2;have cell:∀j,j<cs.length->∀(hv:j<vs.size) (hu:j<us.size),(vs[j]=us[j]↔cs[j]?=ds[j]?):=by
  intro j hj hv hu;obtain⟨tf,c,q1,_,q3,q4⟩:=wiy h1 j fs[j] (List.getElem?_eq_getElem (by omega));obtain⟨tf',c',q1',_,q3',q4'⟩:=wiy h2 j fs[j] (List.getElem?_eq_getElem (by omega));rw[q1] at q1';obtain rfl:=oJ7 q1';have:=wse (V1 j _ _ (Array.getElem?_eq_getElem hv) q3) (V2 j _ _ (Array.getElem?_eq_getElem hu) q3') q4 q4';rw[this,q3,q3'];simp
 constructor
 .rintro rfl;apply List.ext_getElem?;intro j
  by_cases hj:j<cs.length
  .exact(cell j hj (by omega) (by omega)).1 rfl
  .rw[List.getElem?_eq_none (by omega),List.getElem?_eq_none (by omega)]
 .rintro rfl;apply Array.ext
  .omega
  .intro j hv hu;exact(cell j (by omega) hv hu).2 rfl
theorem ws7(hte:TE.ok P te)(hn:∀t ti,lk te t=some ti->wa8 ti.desc=false->ti.sz=1){kt:TypeId}{cs:List AV}{v:Value}(hk:keyA te kt (.agg cs)=true)(hV:V w M bs v (.agg cs))(em:Bool):(Instr.checkKey em 10000 kt v).run P w= .ok () w:=by
 obtain⟨tk,fs,htk,hfs,hcmp,hs,_,_⟩:=wgq hn hk hk;obtain⟨vs,rfl,s1,o1,V1⟩:=wmg hV;have hu:P.underlying kt=some (.struct fs):=by rw[(hte kt tk htk).1,hfs]
 have hb:=((hte kt tk htk).2.2 hcmp).2.2 fs hfs;have each : ∀f ∈ fs.toList, f.name ≠ "_" /\ ∃v, (part f.type vs f.offset).run P w = .ok v w /\ (Instr.checkKey em 9999 f.type v).run P w = .ok () w := by
  intro f hf;refine⟨hb f hf,?_⟩;obtain⟨j,hj⟩:=List.getElem?_of_mem hf;obtain⟨tf,c,q1,q2,q3,q4⟩:=wiy hs j f hj;have hs1:=hn _ _ q1 (wsd q4);have hjl:j<cs.length:=(List.getElem?_eq_some_iff.1 q3).1;have tx:wcq tf.sz (wce f.offset cs)=some [c]:=by
   rw[hs1,wdn,q2,Nat.zero_add,List.drop_eq_getElem_cons hjl];have:cs[j]=c:=(List.getElem?_eq_some_iff.1 q3).2;rw[this];rfl
  obtain⟨v,hv,cv⟩:=wg9 hte q1 (hn _ _ q1) s1 o1 V1 tx;rw[wsd q4] at cv;obtain⟨u,e,hVu⟩:=cv;simp only[List.cons.injEq,and_true] at e;subst e;exact⟨v,hv,MapKept.run_checkKey (hte _ _ q1).1 (whi hVu q4) em 9998⟩
 rw[show (10000:Nat)=9999+1 from rfl,Instr.checkKey];simp only[Sem.run_bind,run_underlying hu,Result.andThen_ok];rw[← Array.forIn_toList];generalize fs.toList=L at each
 induction L with
 |nil=>simp
 |cons f L ih=>
  obtain⟨hne,v,p1,p2⟩:=each f (by simp);simp only[List.forIn_cons,if_pos hne,Sem.run_bind,Result.andThen_ok,p1,p2,Sem.run_pure];exact ih λy hy=>each y (by simp[hy])
theorem wqy{te:TE}{kt:TypeId}{cs:List AV}{v:Value}(hn:∀t ti,lk te t=some ti->wa8 ti.desc=false->ti.sz=1)(hk:keyA te kt (.agg cs)=true)(hV:V w M bs v (.agg cs)):(Instr.keyThatStays v v).run P w= .ok v w:=by
 obtain⟨tk,fs,htk,hfs,hcmp,hs,_,_⟩:=wgq hn hk hk;obtain⟨vs,rfl,s1,o1,V1⟩:=wmg hV;have l1:=wkj hs;have hb:Instr.sameBits 10000 (.agg vs) (.agg vs)=true:=by
  rw[show (10000:Nat)=9999+1 from rfl,Instr.sameBits];simp only[beq_self_eq_true,Bool.true_and];rw[List.all_eq_true];intro p hp;obtain⟨j,hj⟩:=List.getElem?_of_mem hp;rw[List.getElem?_zip_eq_some] at hj;obtain⟨q1,q2⟩:=hj;have e:p.1=p.2:=by rw[q1] at q2;exact oJ7 q2
  have hjl:j<vs.size:=by
   have:=(List.getElem?_eq_some_iff.1 q1).1;simpa using this
  obtain⟨tf,c,_,_,q3,q4⟩:=wiy hs j fs.toList[j] (List.getElem?_eq_getElem (by omega));have hVc:=V1 j p.1 c (by simpa using q1) q3;obtain⟨a,b⟩:=p;simp only at e hVc;subst e;exact MapKept.sameBits_self (whi hVc q4) 9999
 simp[Instr.keyThatStays,hb]
theorem wlo(hte:TE.ok P te)(hn:∀t ti,lk te t=some ti->wa8 ti.desc=false->ti.sz=1){kt:TypeId}{ks:List AV}{kv:Value}(hk:keyA te kt (.agg ks)=true)(hV:V w M bs kv (.agg ks)):∀(ents:List MapEntry) (es:List (AV×AV)) (i:Nat),
  ents.length=es.length->(∀(j:Nat) (e:MapEntry) (p:AV×AV),ents[j]?=some e->es[j]?=some p->V w M bs e.key p.1/\V w M bs e.val p.2)->(es.all λp=>keyA te kt p.1)=true->
  ((Instr.findAsking kt kv ents i).run P w= .ok none w/\∀p∈es,p.1≠ .agg ks)∨∃(j:Nat) (e:MapEntry) (v:AV),(Instr.findAsking kt kv ents i).run P w= .ok (some (i+j,e.val)) w/\ents[j]?=some e/\e.key=kv/\es[j]?=some (.agg ks,v)/\V w M bs e.val v
 |[],[],i,_,_,_=>.inl ⟨by simp[Instr.findAsking],λp hp=>by simp at hp⟩
 |[],_::_,_,h,_,_=>by simp at h
 |_::_,[],_,h,_,_=>by simp at h
 |e::ents,p::es,i,hl,hE,hall=>by
  simp only[List.all_cons,bA7] at hall;obtain⟨v1,v2⟩:=hE 0 e p rfl rfl;obtain⟨pk,pv⟩:=p
  cases pk with
  |agg ps=>
   obtain⟨tk,fs,htk,hfs,hcmp,h1,h2,heq⟩:=wgq hn hk hall.1;obtain⟨vs,rfl,s1,o1,V1⟩:=wmg hV;obtain⟨us,hus,s2,o2,V2⟩:=wmg v1;have hag:wa8 tk.desc=true:=by rw[hfs];rfl
   have run:(Op.equal kt (.agg vs) e.key).run P w= .ok (keqL ks ps) w:=
    wsx hte hn 8 9992 kt tk _ _ ks ps _ htk (by rw[hag];exact⟨vs,rfl,s1,o1,V1⟩) (by rw[hag];exact⟨us,hus,s2,o2,V2⟩) heq
   cases hb:keqL ks ps with
   |true=>
    rw[hb] at run;have e1:=(wla h1 h2).1 hb;subst e1;have e2:vs=us:=(key_inj h1 h2 s1 V1 s2 V2).2 rfl;subst e2;exact .inr ⟨0,e,pv,by simp[Instr.findAsking,run],rfl,hus,rfl,v2⟩
   |false=>
    rw[hb] at run;have hne:ks≠ps:=λe=>by rw[(wla h1 h2).2 e] at hb;cases hb
    rcases wlo hte hn hk hV ents es (i+1) (by simpa using hl) (λj e' p' q1 q2=>hE (j+1) e' p' (by simpa using q1) (by simpa using q2)) hall.2 with⟨q1,q2⟩ | ⟨j,e',v,q1,q2,q3,q4,q5⟩
    .refine .inl ⟨by simp[Instr.findAsking,run,q1],λp hp=>?_⟩
     rcases List.mem_cons.1 hp with rfl | hp
     .intro e';injection e' with e';exact hne e'.symm
     .exact q2 p hp
    .exact .inr ⟨j+1,e',v,by simp[Instr.findAsking,run,q1];omega,by simpa using q2,q3,by simpa using q4,q5⟩
  |_=>simp[keyA] at hall
end
section
variable {C:Ctx} {N:Nat} {o:Oper} {T:Nat->Option AV} {O:Nat->Option AObj} {k:Nat} {te:TE}
theorem way.lookupA(hte:TE.ok C.P te)(hn:∀t ti,lk te t=some ti->wa8 ti.desc=false->ti.sz=1){mt kt et:TypeId}{mx kx:Operand}{ok:Bool}{mu:AV}{es:List (AV×AV)}{ku u0 u:AV}{ti tk tie:TI}(res:Option AV)
  (hop:o.op= .lookup mt mx kx ok) (hd:wba N o.dst=true) (hm:evO T mx=some mu) (hk:evO T kx=some ku) (ht:lk te mt=some ti) (htd:ti.desc= .map kt et) (het:lk te et=some tie)
  (hO:mapA O mu=some es) (hkK:keyA te kt ku=true) (hz:∀(w:World) (M:Nat->Prop) (bs:Nat->Option Hd),V w M bs tie.zero u0) (hks:(es.all λp=>keyA te kt p.1)=true)
  (hu:(match ok with | true=>.tuple [res.getD u0,.bool res.isSome] | false=>res.getD u0)=u) (hH:Holds es ku res) (huniq:∀(j j':Nat) v v',es[j]?=some (ku,v)->es[j']?=some (ku,v')->v=v'):way C N o T O k u []:=by
 have _:=tk;intro E T' O' bs a w K Q hT hOs hr hf hK;have hmv:=wbe hr.1 (wbg hT hm);have hkv:=wbe hr.1 (wbg hT hk);generalize hmx:a.eval mx=mv at hmv;generalize hkx:a.eval kx=kv at hkv;obtain⟨b,ents,clock,rfl,h2,h3⟩:=wwq hr.2 hmv (wr0 hOs hO);have hund:=wbt hte (w:=w) ht;have hzr:=wgh hte (w:=w) het;have fin:∀v,(Instr.lookup mt (.map (some b)) kv ok).run C.P w= .ok v w->V w (MB E O' bs) bs v u->o.wp C.P a w K Q:=by
  intro v hv hV;have:(execOp a.eval o).run C.P w= .ok (.value v) w:=by simp[execOp,hop,hmx,hkx,hv]
  unfold Oper.wp;rw[this];exact hK bs _ _ (λ_ _=>rfl) ⟨hr.1.putF hd hV,hr.2⟩
 obtain⟨ks,rfl⟩:∃ks,ku= .agg ks:=by
  cases ku with
  |agg ks=>exact⟨ks,rfl⟩
  |_=>simp[keyA] at hkK
 obtain⟨tk2,fs,hk2,hfs,_⟩:=wgq hn hkK hkK;have hund2:C.P.underlying kt=some (.struct fs):=by rw[(hte kt tk2 hk2).1,hfs]
 have hck:=λem=>ws7 hte hn hkK hkv em;have hfk:(Instr.findKey kt kv ents.toList).run C.P w=(Instr.findAsking kt kv ents.toList).run C.P w:=run_findKey_eq w (by rw[hund2]) kv ents.toList;have hst:=wqy (P:=C.P) hn hkK hkv
 rcases wlo hte hn hkK hkv ents.toList es 0 (by simpa using h3.1) (λj e p q1 q2=>h3.2 j e p (by simpa using q1) q2) hks with⟨f1,f2⟩ | ⟨j,e,v,f1,f20,f3,f4,f5⟩
 .have hres:res=none:=by
   cases res with
   |none=>rfl
   |some v=>obtain⟨j,hj⟩:=hH;exact absurd rfl (f2 _ (List.mem_of_getElem? hj))
  subst hres;refine fin (if ok then .tuple #[tie.zero,.bool false] else tie.zero) ?_ ?_
  .simp[Instr.lookup,hund,htd,MapKept.run_getObj_map h2,hck,hfk,f1,hzr,Result.andThen]
  .subst hu;have hz':V w (MB E O' bs) bs tie.zero u0:=hz _ _ _
   cases ok with
   |false=>exact hz'
   |true=>
    refine .tuple rfl λj v u hv hu=>?_
    match j with
    |0=>simp at hv hu;subst hv;subst hu;exact hz'
    |1=>simp at hv hu;subst hv;subst hu;exact .bool
    |j+2=>simp at hv
 .rw[Nat.zero_add] at f1;have hres:res=some v:=by
   cases res with
   |none=>exact absurd rfl (hH _ (List.mem_of_getElem? f4))
   |some v'=>obtain⟨j',hj'⟩:=hH;rw[huniq _ _ _ _ hj' f4]
  subst hres;refine fin (if ok then .tuple #[e.val,.bool true] else e.val) ?_ ?_
  .simp[Instr.lookup,hund,htd,MapKept.run_getObj_map h2,hck,hfk,f1,Result.andThen]
  .subst hu
   cases ok with
   |false=>exact f5
   |true=>
    refine .tuple rfl λj v u hv hu=>?_
    match j with
    |0=>simp at hv hu;subst hv;subst hu;exact f5
    |1=>simp at hv hu;subst hv;subst hu;exact .bool
    |j+2=>simp at hv
theorem way.mapUpdateA(hte:TE.ok C.P te)(hn:∀t ti,lk te t=some ti->wa8 ti.desc=false->ti.sz=1){mt kt et:TypeId}{mx kx vx:Operand}{r:Nat}{es es':List (AV×AV)}{ku vu:AV}{ti tk:TI}
  (hop:o.op= .mapUpdate mt mx kx vx) (hd:o.dst=none) (hm:evO T mx=some (.map r)) (hk:evO T kx=some ku) (hv:evO T vx=some vu) (ht:lk te mt=some ti) (htd:ti.desc= .map kt et) (_hkt:lk te kt=some tk)
  (hO:O r=some (.amap es)) (hkK:keyA te kt ku=true) (hks:(es.all λp=>keyA te kt p.1)=true)
  (hH:(∀(j:Nat) v,es[j]?=some (ku,v)->es'=es.set j (ku,vu))/\((∀p∈es,p.1≠ku)->es'=es++[(ku,vu)])):way C N o T O k .any [(r,.amap es')]:=by
 intro E T' O' bs a w K Q hT hOs hr hf hK;have hmv:=wbe hr.1 (wbg hT hm);have hkv:=wbe hr.1 (wbg hT hk);have hvv:=wbe hr.1 (wbg hT hv);have hOr:=hOs _ _ hO;obtain⟨b,c,ents,clock,h1,h2,h3,h4⟩:=hr.2.obj r _ hOr;generalize hmx:a.eval mx=mv at hmv;generalize hkx:a.eval kx=kv at hkv;generalize hvx:a.eval vx=vv at hvv
 cases hmv with | map hbr=>
 rw[h1] at hbr;injection hbr with hbr;injection hbr with e1 e2;subst e1;subst e2;have hund:=wbt hte (w:=w) ht;obtain⟨ks,rfl⟩:∃ks,ku= .agg ks:=by
  cases ku with
  |agg ks=>exact⟨ks,rfl⟩
  |_=>simp[keyA] at hkK
 obtain⟨tk2,fs,hk2,hfs,_⟩:=wgq hn hkK hkK;have hund2:C.P.underlying kt=some (.struct fs):=by rw[(hte kt tk2 hk2).1,hfs]
 have hck:=λem=>ws7 hte hn hkK hkv em;have hfk:(Instr.findKey kt kv ents.toList).run C.P w=(Instr.findAsking kt kv ents.toList).run C.P w:=run_findKey_eq w (by rw[hund2]) kv ents.toList;have hst:=wqy (P:=C.P) hn hkK hkv;have fin:∀ents' clock',(Instr.mapUpdate mt (.map (some b)) kv vv).run C.P w= .ok () { w with heap:=w.heap.setIfInBounds b (.map ents' clock') }->
   (∀w' M',Step w (MB E O' bs) bs w' M' bs->wim w' M' bs ents' es')->wqd ents' clock'->o.wp C.P a w K Q:=by
  intro ents' clock' hrun hent hborn;have:(execOp a.eval o).run C.P w= .ok .skip { w with heap:=w.heap.setIfInBounds b (.map ents' clock') }:=by simp[execOp,hop,hmx,hkx,hvx,hrun]
  unfold Oper.wp;rw[this];obtain⟨g1,g2⟩:=MapKept.heap_set (o':=.map ents' clock') h2
  obtain⟨hS,hW⟩:=hr.2.modify (x:=r) (o:=.amap es') hOr rfl h1 (w':={ w with heap:=w.heap.setIfInBounds b (.map ents' clock') }) (λb' hb'=>g2 b' hb') (by simp) rfl ⟨rfl,λ_=>lR7 _⟩ rfl rfl
   (λhS=>⟨b,c,ents',clock',h1,g1,hent _ _ hS,hborn⟩)
  refine hK bs _ _ (λ_ _=>rfl) ⟨?_,hW⟩;rw[hd];exact hr.1.step hS
 rcases wlo hte hn hkK hkv ents.toList es 0 (by simpa using h3.1) (λj e p q1 q2=>h3.2 j e p (by simpa using q1) q2) hks with⟨f1,f2⟩ | ⟨j,e,v,f1,f20,f3,f4,f5⟩
 .have he:=hH.2 f2;subst he;refine fin (ents.push ⟨kv,vv,clock⟩) (clock+1) ?_ (λw' M' hS=>⟨by simp[h3.1],λi e p hi hp=>?_⟩) ⟨by simp[h4.1],λi e hi=>?_⟩
  .simp[Instr.mapUpdate,hund,htd,MapKept.run_getObj_map h2,hck,hfk,f1,MapKept.run_setObj_map _ h2,Result.andThen]
  .rw[Array.getElem?_push] at hi;split at hi
   .rename_i hie;simp only[sI7] at hi;subst hi;rw[hie,h3.1] at hp;simp at hp;subst hp;exact⟨hkv.step hS,hvv.step hS⟩
   .have hlt:i<es.length:=by rw[← h3.1];exact(Array.getElem?_eq_some_iff.1 hi).1
    rw[List.getElem?_append_left hlt] at hp;obtain⟨x,y⟩:=h3.2 i e p hi hp;exact⟨x.step hS,y.step hS⟩
  .rw[Array.getElem?_push] at hi;split at hi
   .rename_i hie;simp only[sI7] at hi;subst hi;rw[hie];exact h4.1
   .exact h4.2 i e hi
 .have f2:ents[j]?=some e:=by simpa using f20
  rw[Nat.zero_add] at f1;have he:=hH.1 j v f4;subst he;subst f3;refine fin (ents.modify j λe'=>{ e' with key:=e.key,val:=vv }) clock ?_ (λw' M' hS=>⟨by simp[h3.1],λi e' p hi hp=>?_⟩) ⟨by simp[h4.1],λi e' hi=>?_⟩
  .simp[Instr.mapUpdate,hund,htd,MapKept.run_getObj_map h2,hck,hfk,f1,f2,hst,MapKept.run_setObj_map _ h2,Result.andThen]
  .rw[Array.getElem?_modify] at hi;split at hi
   .rename_i hji;subst hji;rw[f2] at hi;simp only[Option.map_some,sI7] at hi;subst hi;have hlt:j<es.length:=(List.getElem?_eq_some_iff.1 f4).1;rw[List.getElem?_set_self hlt] at hp;simp only[sI7] at hp;subst hp;exact⟨hkv.step hS,hvv.step hS⟩
   .rename_i hji;rw[List.getElem?_set_ne hji] at hp;obtain⟨x,y⟩:=h3.2 i e' p hi hp;exact⟨x.step hS,y.step hS⟩
  .rw[Array.getElem?_modify] at hi;split at hi
   .rename_i hji;subst hji;rw[f2] at hi;simp only[Option.map_some,sI7] at hi;subst hi;exact h4.2 j e f2
   .exact h4.2 i e' hi
end
end Go.Eng
namespace Go.Eng
open Go.RowKit
section
variable {C:Ctx} {N:Nat} {o:Oper} {T T':Nat->Option AV} {O O':Nat->Option AObj} {k:Nat} {te:TE}
theorem way.clear(hte:TE.ok C.P te){t e e':TypeId}{ti tie:TI}{x:Operand}{args:Array Operand}{argTypes:Array TypeId}{r sz off n n0:Nat}{f:Nat->List AV}{zs:List AV}
  (hop:o.op= .call { callee:=.builtin .clear,args:=args,argTypes:=argTypes }) (hd:wba N o.dst=true) (ha:args.toList=[x]) (hta:argTypes.toList=[t]) (hx:evO T x=some (.sub r sz off n)) (ht:lk te t=some ti) (htd:ti.desc= .slice e)
  (he:lk te e=some tie) (hO:O r=some (.row e' sz n0 f false)) (hz:avcs tie.zero.cells.toList=some zs) (hzl:zs.length=sz) (hoff:off<=n0):
  way C N o T O k (.tuple []) [(r,.row e' sz off f false)]:=by
 intro E T' O' bs a w K Q hT hOs hr hf hK;have hxv:=wbe hr.1 (wbg hT hx);have hOr:=hOs _ _ hO;have hu1:=wbt hte (w:=w) ht;rw[htd] at hu1;have hzr:=λw:World=>wgh hte (w:=w) he;have hz':=wgx (w:=w) (M:=MB E O' bs) (bs:=bs) _ _ hz;have hzsz:tie.zero.cells.size=sz:=by rw[← hzl];simpa using hz'.1
 have hargs:args=#[x]:=by rw[← Array.toArray_toList (xs:=args),ha]
 have hats:argTypes=#[t]:=by rw[← Array.toArray_toList (xs:=argTypes),hta]
 subst hargs;subst hats;have hzone:∀m,∀v∈(Builtin.zeroCells tie.zero.cells m).toList,Value.oneCell' v=true:=by
  intro m v hv;unfold Builtin.zeroCells at hv;rw[Array.toList_map,List.mem_map] at hv;obtain⟨i,hi,rfl⟩:=hv;have hi:i<m * tie.zero.cells.size:=by simpa using hi
  have hpos:0<tie.zero.cells.size:=by
   rcases Nat.eq_zero_or_pos tie.zero.cells.size with h | h
   .rw[h] at hi;simp at hi
   .exact h
  have hlt:=Nat.mod_lt i hpos;refine hz'.2.1 (i % tie.zero.cells.size) _ ?_;rw[getElem!_pos tie.zero.cells _ hlt];simp
 have hzlen:∀m,(Builtin.zeroCells tie.zero.cells m).toList.length=m * sz:=by
  intro m;simp[Builtin.zeroCells,hzsz]
 have clear0:∀A c,(Builtin.clear_ #[t] o.type #[.slice A 0 c]).run C.P w= .ok (.tuple #[]) w:=by
  intro A c
  cases A<;>simp[Builtin.clear_,hu1]
 have fin:∀w',(Builtin.clear_ #[t] o.type #[a.eval x]).run C.P w= .ok (.tuple #[]) w'->(execOp a.eval o).run C.P w= .ok (.value (.tuple #[])) w':=by
  intro w' h;simp[execOp,hop,resolve,invoke,builtin,h]
 generalize hev:a.eval x=vx at hxv fin
 cases hxv with
 |subnil hb hn ho=>
  have h:=fin w (clear0 _ _);subst ho;have hn0:n0=0:=by
   rcases hr.2.obj r _ hOr with⟨_,q⟩ | ⟨b',c',vs,hb',_⟩
   .exact q
   .rw[hb] at hb';cases hb'
  subst hn0;have e0:up O' r (.row e' sz 0 f false)=O':=by
   funext i
   by_cases hi:r=i
   .subst hi;rw[waz,hOr]
   .rw[wav _ _ _ hi]
  obtain⟨hS,hW⟩:Step w (MB E O' bs) bs w (MB E (upL O' [(r,.row e' sz 0 f false)]) bs) bs/\WRep C E (upL O' [(r,.row e' sz 0 f false)]) bs w:=by
   show Step w (MB E O' bs) bs w (MB E (up O' r (.row e' sz 0 f false)) bs) bs/\WRep C E (up O' r (.row e' sz 0 f false)) bs w;rw[e0];exact⟨Step.refl _ _ _,hr.2⟩
  unfold Oper.wp;rw[h];exact hK bs _ _ (λ_ _=>rfl) ⟨(hr.1.step hS).putF hd (.tuple rfl (λj v u hv hu=>by simp at hv)),hW⟩
 |@sub _ _ _ _ _ b c A hb hn hcm hA=>
  rcases hr.2.obj r _ hOr with⟨q,_⟩ | ⟨b',c',vs,hb',hh,hnc',hcm',hsz,hln,hone,hval⟩
  .rw[q] at hb;cases hb
  obtain⟨rfl,rfl⟩:b'=b/\c'=c:=by
   rw[hb'] at hb;injection hb with hb;injection hb with e1 e2;exact⟨e1,e2⟩
  obtain⟨vs',h1,h2,h3⟩:∃vs':Array Value,(Builtin.clear_ #[t] o.type #[.slice A n (c' - off)]).run C.P w= .ok (.tuple #[]) (w.setRow b' vs')/\vs'.size=vs.size/\∀j,j<off * sz->vs'[j]?=vs[j]?:=by
   rcases Nat.eq_zero_or_pos n with h0 | h0
   .subst h0;exact⟨vs,by rw[setRow_self w b' vs e' (0,0) hh];exact clear0 _ _,rfl,λ_ _=>rfl⟩
   .have hle:off * sz+n * sz<=vs.size:=by rw[hsz, ← Nat.add_mul];exact Nat.mul_le_mul_right _ hn
    have hst:=run_storeCells_at C.P b' (off * sz) e' (Builtin.zeroCells tie.zero.cells n).toList 0 vs w hh (by rw[hzlen];omega) (hzone n);rw[Nat.add_zero] at hst;refine⟨(vs.toList.take (off * sz)++(Builtin.zeroCells tie.zero.cells n).toList++vs.toList.drop (off * sz+(Builtin.zeroCells tie.zero.cells n).toList.length)).toArray,?_,?_,?_⟩
    .rw[hA h0];have hn0:n≠0:=by omega
     obtain⟨m,rfl⟩:∃m,n=m+1:=⟨n - 1,by omega⟩;simp[Builtin.clear_,hu1,hzr,hst]
    .simp only[List.size_toArray,lA7,hzlen,List.length_take,List.length_drop,Array.length_toList];omega
    .intro j hj;simp only[List.getElem?_toArray,List.append_assoc];rw[List.getElem?_append_left (by simp;omega),List.getElem?_take,if_pos hj,Array.getElem?_toList]
  have h:=fin _ h1;obtain⟨hS,hW⟩:=hr.2.modify hOr rfl hb' (w':=w.setRow b' vs') (λk hk=>setRow_other w b' k _ hk) (size_setRow _ _ _) rfl ⟨rfl,λ_=>lR7 _⟩ rfl (o:=.row e' sz off f false) rfl λhS=>
   .inr ⟨b',c',vs',hb',setRow_heap w b' vs _ e' (0,0) hh,by omega,hcm',by rw[h2,hsz],λi hi=>hln i (by omega),λi hi j hj v hv=>by
    have hlt:(i+1) * sz<=off * sz:=Nat.mul_le_mul_right _ (by omega);rw[Nat.add_mul,Nat.one_mul] at hlt;rw[h3 _ (by omega)] at hv;exact hone i (by omega) j hj v hv,λi hi j v u hj hv hu=>by
    have hlt:(i+1) * sz<=off * sz:=Nat.mul_le_mul_right _ (by omega);rw[Nat.add_mul,Nat.one_mul] at hlt;rw[h3 _ (by omega)] at hv;exact(hval i (by omega) j v u hj hv hu).step hS⟩
  unfold Oper.wp;rw[h];exact hK bs _ _ (λ_ _=>rfl) ⟨(hr.1.step hS).putF hd (.tuple rfl (λj v u hv hu=>by simp at hv)),hW⟩
end
end Go.Eng
