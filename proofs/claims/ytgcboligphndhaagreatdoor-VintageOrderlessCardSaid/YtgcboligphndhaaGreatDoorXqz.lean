/- A file that shares no memory. -/
import Derived.Test.YtgcboligphndhaaGreatDoorXqw
import Derived.Lib.SliceRun
namespace Go.Eng
open Go.Proofs Go.RowKit
variable {C:Ctx} [C.Loose]
set_option maxRecDepth 20000
theorem vname(id:List UInt8):decide (msgF ⟨id,0,0,⟨[],[],0,0,0,0,[]⟩,⟨[],[],0,[],0⟩⟩=110)= !wa8 id:=by
 unfold msgF
 cases h:wa8 id with
 |true=>
  simp only[Bool.not_true,cond_false];rfl
 |false=>simp only[Bool.not_false,cond_true];rfl
theorem vday(d:Int):decide ((bif decide (0<=d) && decide (d<=182620) then d % 7 else -1)<0)=(decide (d<0) || decide (182620<d)):=by
 by_cases h1:d<0
 ·rw[decide_eq_false (show ¬ 0<=d by omega),decide_eq_true h1];rfl
 ·by_cases h2:182620<d
  ·rw[decide_eq_false (show ¬ d<=182620 by omega),Bool.and_false,decide_eq_true h2,Bool.or_true];rfl
  ·rw[decide_eq_true (show 0<=d by omega),decide_eq_true (show d<=182620 by omega),decide_eq_false h1,decide_eq_false h2];exact decide_eq_false (by show ¬ d % 7<0;omega)
theorem vin_ok(hP:C.P=Tryz.prog)(hL:∀w,C.laid w->LaidW w):waf C 29 wle:=by
 rintro args objs U Os vc h hvc;unfold wle at h;split at h<;>cases h;rename_i id ver day kind nm fm nr fr nt ft;obtain⟨hc,hs⟩:=hvc;have l1:(lst (mgOf fm) nm).length=nm:=by simp[lst]
 have l2:(lst (rwOf fr) nr).length=nr:=by simp[lst]
 have l3:(lst (rtOf ft) nt).length=nt:=by simp[lst]
 obtain⟨c1,c2,c3⟩:=hc;unfold flV at hs ⊢;generalize lst (mgOf fm) nm=ms at *;generalize lst (rwOf fr) nr=rs at *;generalize lst (rtOf ft) nt=ts at *;subst l1;subst l2;subst l3;subst c1;subst c2;subst c3;have hn:=nf_vin ⟨id,ver,day,kind,ms,rs,ts⟩;dsimp only at hn;refine waf.wp0 (prg hP) [(72,.det wff),(73,.det wg8),(74,.det wm3)] 0 (.cons (wpr hP hL) (.cons (wru hP) (.cons (w24 hP hL) .nil))) (hP ▸ Tryz.func29) rfl rfl rfl ?_;rw[hn];have hid:=hs.id;dsimp only at hid;have fl:=wcq ⟨id,ver,day,kind,ms,rs,ts⟩;have fc:=wdc ⟨id,ver,day,kind,ms,rs,ts⟩;dsimp only at fl fc;rw[fl,vname,vday];unfold vinF;dsimp only
 refine⟨⟨hid,by decide,by decide,by decide⟩,waz (λk1=>by rw[k1];exact⟨rfl,rfl⟩) (λk1=>?_)⟩;rw[k1]
 have tail:(decide (ver<1) || decide (1000<ver) || (decide (kind=1) && !decide (ver=1)))=false->True/\wad (decide (day<0) || decide (182620<day)) ((AV.q 152=AV.q (bif false then 150 else bif decide (ver<1) || decide (1000<ver) || (decide (kind=1) && !decide (ver=1)) then 151 else bif decide (day<0) || decide (182620<day) then 152 else bif decide (kind<1) || decide (3<kind) then 153 else bif !ctF ⟨id,ver,day,kind,ms,rs,ts⟩ then 154 else 0))/\([]:List (Nat×AObj))=[])
   (wad (decide (kind<1)) ((AV.q 153=AV.q (bif false then 150 else bif decide (ver<1) || decide (1000<ver) || (decide (kind=1) && !decide (ver=1)) then 151 else bif decide (day<0) || decide (182620<day) then 152 else bif decide (kind<1) || decide (3<kind) then 153 else bif !ctF ⟨id,ver,day,kind,ms,rs,ts⟩ then 154 else 0))/\([]:List (Nat×AObj))=[])
   (wad (decide (3<kind)) ((AV.q 153=AV.q (bif false then 150 else bif decide (ver<1) || decide (1000<ver) || (decide (kind=1) && !decide (ver=1)) then 151 else bif decide (day<0) || decide (182620<day) then 152 else bif decide (kind<1) || decide (3<kind) then 153 else bif !ctF ⟨id,ver,day,kind,ms,rs,ts⟩ then 154 else 0))/\([]:List (Nat×AObj))=[])
   ((FlC ms.length (wag (atM ms)) rs.length (wai (atR rs)) ts.length (wah (atT ts))/\FL.Sm ⟨id,ver,day,kind,ms,rs,ts⟩)/\wad (!ctF ⟨id,ver,day,kind,ms,rs,ts⟩) ((AV.q 154=AV.q (bif false then 150 else bif decide (ver<1) || decide (1000<ver) || (decide (kind=1) && !decide (ver=1)) then 151 else bif decide (day<0) || decide (182620<day) then 152 else bif decide (kind<1) || decide (3<kind) then 153 else bif !ctF ⟨id,ver,day,kind,ms,rs,ts⟩ then 154 else 0))/\([]:List (Nat×AObj))=[])
    ((AV.q 0=AV.q (bif false then 150 else bif decide (ver<1) || decide (1000<ver) || (decide (kind=1) && !decide (ver=1)) then 151 else bif decide (day<0) || decide (182620<day) then 152 else bif decide (kind<1) || decide (3<kind) then 153 else bif !ctF ⟨id,ver,day,kind,ms,rs,ts⟩ then 154 else 0))/\([]:List (Nat×AObj))=[])))):=λe=>by
  rw[e];refine⟨trivial,waz (λd=>by rw[d];exact⟨rfl,rfl⟩) (λd=>?_)⟩;rw[d];refine waz (λk=>by rw[k];exact⟨rfl,rfl⟩) (λk=>waz (λj=>by rw[k,j];exact⟨rfl,rfl⟩) (λj=>⟨⟨fc,hs⟩,?_⟩));rw[k,j];exact waz (λc=>by rw[c];exact⟨rfl,rfl⟩) (λc=>by rw[c];exact⟨rfl,rfl⟩)
 refine waz (λa=>by rw[a];exact⟨rfl,rfl⟩) (λa=>waz (λb=>by rw[a,b];exact⟨rfl,rfl⟩) (λb=>waz (λc=>waz (λd=>by rw[a,b,c,d];exact⟨rfl,rfl⟩) (λd=>tail (by rw[a,b,c,d];rfl))) (λc=>tail (by rw[a,b,c];rfl))))
end Go.Eng
namespace Go.Eng
def entT(K:List (List UInt8))(F:List UInt8->FL):List (AV×AV):=K.map λt=>(.str t,.agg (wbb (F t)))
theorem wc3(g:Nat->FL)(k:Nat):entN g k=entT (waw okV g k) (wbe okV g k):=rfl
theorem wep(a b:List UInt8):keq (.str a) (.str b)=decide (a=b):=by
 rfl
theorem wpv(F:List UInt8->FL)(x:List UInt8):∀K,mget (entT K F) (.str x)=if x∈K then some (.agg (wbb (F x))) else none
 |[]=>rfl
 |t::K=>by
  show (match keq (.str t) (.str x) with | true=>some (AV.agg (wbb (F t))) | false=>mget (entT K F) (.str x))=_
  rw[wep,wpv F x K]
  by_cases h:t=x
  ·subst h;simp
  ·have h':¬ x=t:=λe=>h e.symm;simp[h,h']
theorem wtt(F:List UInt8->FL)(x:List UInt8)(G:FL):∀K,x ∉ K->mset (entT K F) (.str x) (.agg (wbb G))=entT (K++[x]) (λt=>if t=x then G else F t)
 |[],_=>by simp[entT,mset]
 |t::K,h=>by
  have h1:¬ t=x:=λe=>h (by simp[e]);have ih:=wtt F x G K (λe=>h (by simp[e]));show (match keq (.str t) (.str x) with | true=>(AV.str x,AV.agg (wbb G))::entT K F | false=>(AV.str t,AV.agg (wbb (F t)))::mset (entT K F) (.str x) (.agg (wbb G)))=_
  rw[wep,decide_eq_false h1,ih];show _=(AV.str t,AV.agg (wbb (if t=x then G else F t)))::entT (K++[x]) _
  rw[if_neg h1]
theorem wip{K:List (List UInt8)}{F F':List UInt8->FL}(h:∀t∈K,F t=F' t):entT K F=entT K F':=List.map_congr_left λt ht=>by rw[h t ht]
theorem wtq(F:List UInt8->FL)(x:List UInt8)(G:FL):∀K,K.Nodup->x∈K->mset (entT K F) (.str x) (.agg (wbb G))=entT K (λt=>if t=x then G else F t)
 |[],_,h=>by cases h
 |t::K,hd,h=>by
  rw[List.nodup_cons] at hd;show (match keq (.str t) (.str x) with | true=>(AV.str x,AV.agg (wbb G))::entT K F | false=>(AV.str t,AV.agg (wbb (F t)))::mset (entT K F) (.str x) (.agg (wbb G)))=(AV.str t,AV.agg (wbb (if t=x then G else F t)))::entT K (λt=>if t=x then G else F t)
  rw[wep]
  by_cases e:t=x
  ·subst e;rw[decide_eq_true rfl,if_pos rfl];show _::_=_::_;rw[wip (F:=F) (F':=λs=>if s=t then G else F s) λs hs=>by
    rw[if_neg];intro q;subst q;exact hd.1 hs]
  ·rw[decide_eq_false e,if_neg e];have hx:x∈K:=by
    rcases List.mem_cons.1 h with q | q
    ·exact absurd q.symm e
    ·exact q
   show _::_=_::_;rw[wtq F x G K hd.2 hx]
theorem wio(σ:Nat->Option Nat)(K:List (List UInt8))(F:List UInt8->FL):(entT K F).map (λp=>(AV.rn σ p.1,AV.rn σ p.2))=entT K F:=by
 unfold entT;rw[List.map_map];rfl
theorem wqw(K:List (List UInt8))(F:List UInt8->FL):(entT K F).length=K.length:=by simp[entT]
theorem entT_at{K:List (List UInt8)}{F:List UInt8->FL}{i:Nat}(h:i<K.length):(entT K F).getD i (.any,.any)=(.str (K.getD i []),.agg (wbb (F (K.getD i [])))):=by
 simp[entT,h]
theorem wqx{K:List (List UInt8)}{F:List UInt8->FL}(h:K.Nodup):wbl .string (entT K F):=by
 refine⟨List.all_eq_true.2 λp hp=>?_,?_⟩
 ·obtain⟨r,_,rfl⟩:=List.mem_map.1 hp;rfl
 ·unfold entT;rw[List.map_map];refine List.pairwise_map.2 (h.imp λ{a b} hab he=>hab ?_);have he:AV.str a=AV.str b:=he;injection he
theorem gotT(F:List UInt8->FL)(K:List (List UInt8))(x:List UInt8):gotN (entT K F) x=if x∈K then .agg (wbb (F x)) else zeroFA:=by
 unfold gotN;rw[wpv]
 by_cases h:x∈K<;>simp[h]
theorem wun(F:List UInt8->FL)(K:List (List UInt8))(x:List UInt8):wcj wi0 (gotN (entT K F) x)=gotN (entT K F) x:=by
 rw[gotT]
 by_cases h:x∈K
 ·rw[if_pos h];rfl
 ·rw[if_neg h];rfl
theorem wv4{g:Nat->FL}{x:List UInt8}{k:Nat}:wcx okV g x k=none↔x ∉ waw okV g k:=by
 constructor
 ·intro h hx;obtain⟨i,hi,h1,h2⟩:=wgr.1 hx;exact(wiv okV g x k).2 h i hi h1 h2
 ·intro h
  cases b:wcx okV g x k with
  |none=>rfl
  |some j=>
   have:=(wiv okV g x k).1 j b;exact absurd (wgr.2 ⟨j,this.lt,this.good,this.enc⟩) h
theorem wk6{g:Nat->FL}{k:Nat}{t:List UInt8}(h:okV (g k)=true->encF (g k)≠t):wbe okV g (k+1) t=wbe okV g k t:=by
 have:(okV (g k) && decide (encF (g k)=t))=false:=by
  cases q:okV (g k) with
  |false=>rfl
  |true=>rw[Bool.true_and];exact decide_eq_false (h q)
 unfold wbe;rw[wcx,this];rfl
theorem w2p{g:Nat->FL}{k:Nat}(h:okV (g k)=false):entN g (k+1)=entN g k:=by
 rw[wc3,wc3,waw,h,Bool.false_and,cond_false];exact wip λt _=>wk6 λq=>by rw[h] at q;cases q
theorem w30{g:Nat->FL}{k:Nat}(h:okV (g k)=true)(hx:encF (g k) ∉ waw okV g k):wbe okV g (k+1) (encF (g k))=g k:=by
 have:(okV (g k) && decide (encF (g k)=encF (g k)))=true:=by rw[h,decide_eq_true rfl];rfl
 unfold wbe;rw[wcx,this,cond_true,wv4.2 hx]
theorem wv5{g:Nat->FL}{k:Nat}(h:okV (g k)=true)(hx:encF (g k)∈waw okV g k):wbe okV g (k+1) (encF (g k))=bif decide ((g k).day<(wbe okV g k (encF (g k))).day) then g k else wbe okV g k (encF (g k)):=by
 have:(okV (g k) && decide (encF (g k)=encF (g k)))=true:=by rw[h,decide_eq_true rfl];rfl
 cases b:wcx okV g (encF (g k)) k with
 |none=>exact absurd hx (wv4.1 b)
 |some j=>
  have e:wbe okV g k (encF (g k))=g j:=by unfold wbe;rw[b]
  rw[e];unfold wbe;rw[wcx,this,cond_true,b];show (match (bif decide ((g k).day<(g j).day) then some k else some j) with | some j=>g j | none=>wc8)=_
  cases decide ((g k).day<(g j).day)<;>rfl
theorem w2n{g:Nat->FL}{k:Nat}(h:okV (g k)=true)(hx:encF (g k) ∉ waw okV g k):mset (entN g k) (.str (encF (g k))) (.agg (wbb (g k)))=entN g (k+1):=by
 rw[wc3,wc3,wtt _ _ _ _ hx,waw,h,decide_eq_false hx];show _=entT (waw okV g k++[encF (g k)]) _;refine wip λt ht=>?_
 by_cases e:t=encF (g k)
 ·subst e;rw[if_pos rfl,w30 h hx]
 ·rw[if_neg e,wk6 λ_ q=>e q.symm]
theorem w2m{g:Nat->FL}{k:Nat}(h:okV (g k)=true)(hx:encF (g k)∈waw okV g k)(hd:(g k).day<(wbe okV g k (encF (g k))).day):mset (entN g k) (.str (encF (g k))) (.agg (wbb (g k)))=entN g (k+1):=by
 rw[wc3,wc3,wtq _ _ _ _ (wfz k) hx,waw,h,decide_eq_true hx];show _=entT (waw okV g k) _;refine wip λt ht=>?_
 by_cases e:t=encF (g k)
 ·subst e;rw[if_pos rfl,wv5 h hx,decide_eq_true hd];rfl
 ·rw[if_neg e,wk6 λ_ q=>e q.symm]
theorem w2o{g:Nat->FL}{k:Nat}(h:okV (g k)=true)(hx:encF (g k)∈waw okV g k)(hd:¬ (g k).day<(wbe okV g k (encF (g k))).day):entN g (k+1)=entN g k:=by
 rw[wc3,wc3,waw,h,decide_eq_true hx];show entT (waw okV g k) _=_;refine wip λt ht=>?_
 by_cases e:t=encF (g k)
 ·subst e;rw[wv5 h hx,decide_eq_false hd];rfl
 ·rw[wk6 λ_ q=>e q.symm]
theorem w3a(es:List (AV×AV)):PreC (cmpN es):=(wkv.comap λx=>wbx (way (gotN es x) 0)).or ((wkw.comap λx=>wap (way (gotN es x) 1)).or ((wkw.comap λx=>wap (way (gotN es x) 2)).or (wkv.or .nil)))
theorem wv6{g:Nat->FL}{n:Nat}{t:List UInt8}(h:t∈waw okV g n):encF (wbe okV g n t)=t:=by
 obtain⟨j,b,e⟩:=wg7 h;rw[e];exact b.enc
theorem w3b{g:Nat->FL}{n:Nat}{x y:List UInt8}(hx:x∈waw okV g n)(hy:y∈waw okV g n):cmpN (entN g n) x y=ordF (wbe okV g n x) (wbe okV g n y):=by
 unfold cmpN;rw[wc3,gotT,gotT,if_pos hx,if_pos hy];unfold ordF;rw[wv6 hx,wv6 hy];rfl
theorem wj3(g:Nat->FL):∀k,(waw okV g k).length<=k
 |0=>lR7 _
 |k+1=>by
  have:=wj3 g k;rw[waw]
  cases okV (g k) && !decide (encF (g k)∈waw okV g k) with
  |true=>rw[cond_true,lA7];simp;omega
  |false=>rw[cond_false];omega
end Go.Eng
namespace Go.Eng
open Go.Proofs Go.RowKit Go.Sort
def entF(es:List (AV×AV))(i:Nat):List AV:=[(es.getD i (.any,.any)).1,(es.getD i (.any,.any)).2]
theorem entsV_F(es:List (AV×AV)):wds es.length (entF es)=es:=by
 apply List.ext_getElem?;intro i;unfold wds;rw[List.getElem?_map]
 rcases Nat.lt_or_ge i es.length with h | h
 ·rw[List.getElem?_range h,Option.map_some,List.getElem?_eq_getElem h];simp[entF,h]
 ·rw[List.getElem?_eq_none (by simpa using h),List.getElem?_eq_none h];rfl
def strV(x:List UInt8):Value:=.string ⟨x.toArray⟩
theorem wan.sortM {C : Ctx} (cf : List UInt8 → List UInt8 → Int) {fS g : FuncId} {t ct : TypeId} (heS : wiz C.P fS)
    (hS : ∀ (cb : Array Value) (blk cap : Nat) (d : Array (List UInt8)) (w : World), CmpLays1 C.P g cb strV cf blk 0 d.size w → Sort.Holds strV w blk 0 d → blk < w.heap.size → d.size < 4611686018427387904 →
      Calls C.P fS #[.slice (some ⟨blk, 0, none⟩) d.size cap, .func (.func g) #[] cb] w fun e w' => e = .returned (.tuple #[]) ∧ ∃ d' n os, PermIn 0 d.size d d' ∧ SortedIn (ltOf cf) 0 d.size d' ∧ w' = sortWorld strV w blk 0 n d' os)
    (hN : ∀ (p : Option Addr) (cap : Nat) (fv : Value) (w : World), Calls C.P fS #[.slice p 0 cap, fv] w fun e w' => e = .returned (.tuple #[]) ∧ w' = w)
    (es : List (AV × AV)) (hes : ∀ p ∈ es, nref p.1 = true ∧ nref p.2 = true)
    (hc : ∀ x y, ADet (Ctx.bare C.P C.mixed) g [.str x, .str y, .vptr [.vmap es.length (entF es)]] [] (.int .i64 (cf x y)) [])
    {n : Nat} (f : Nat → List UInt8) (hn : n < 4611686018427387904) :
    wan C fS [.own 0 n, .func g [.ptr 1 0]] [.row t 1 n (fun i => [.str (f i)]) false, .cells [.map 2] ct, .amap es] fun u O => u = .tuple [] ∧ ∃ f' : Nat → List UInt8, ((List.range n).map f').Perm ((List.range n).map f) ∧ (∀ i j, i < j → j < n → ¬ cf (f' j) (f' i) < 0) ∧
      O = [(0, .row t 1 n (fun i => [.str (f' i)]) false), (1, .cells [.map 2] ct), (2, .amap es)] := by
  refine ⟨heS, fun E bs w cargs h1 h2 h3 hW h5 h6 h7 => ?_⟩
  obtain ⟨a, b, rfl⟩ : ∃ a b, cargs = [a, b] := by
    match cargs, h6 with
    | [a, b], _ => exact ⟨a, b, rfl⟩
  have hO : ∀ F : Nat → List UInt8, lkL [AObj.row t 1 n (fun i => [.str (F i)]) false, .cells [.map 2] ct, .amap es] = lk [(0, .row t 1 n (fun i => [.str (F i)]) false), (1, .cells [.map 2] ct), (2, .amap es)] := fun F => by
    funext i
    match i with
    | 0 => rfl
    | 1 => rfl
    | 2 => rfl
    | i + 3 =>
      rw [wa3, if_neg (by show ¬ 0 = i + 3; omega), wa3, if_neg (by show ¬ 1 = i + 3; omega), wa3, if_neg (by show ¬ 2 = i + 3; omega)]
      simp [lkL, lk]
  have V0 := h7 0 _ _ rfl rfl
  have V1 := h7 1 _ _ rfl rfl
  rw [hO] at hW V0 V1
  have hbs : ∀ (F : Nat → List UInt8) r, 3 + 16 ≤ r → lk [(0, AObj.row t 1 n (fun i => [.str (F i)]) false), (1, .cells [.map 2] ct), (2, .amap es)] r = none ∧ bs r = none := fun F r hr =>
    ⟨by rw [wa3, if_neg (by show ¬ 0 = r; omega), wa3, if_neg (by show ¬ 1 = r; omega), wa3, if_neg (by show ¬ 2 = r; omega)]; rfl, h5 r (by show 3 ≤ r; omega)⟩
  -- the cell and the map
  obtain ⟨b1, c1, cs1, k1, k2, k3, k4, k5⟩ := hW.obj 1 _ rfl
  obtain ⟨b2, c2, ents, clock, m1, m2, m3, m4⟩ := hW.obj 2 _ rfl
  obtain ⟨mv, rfl⟩ : ∃ mv, cs1 = #[mv] := by
    have k3 : cs1.size = 1 := k3
    exact ⟨cs1[0], by apply Array.ext; · simpa using k3
                      · intro i hi1 hi2; have : i = 0 := by omega
                        subst this; rfl⟩
  have hmv : mv = .map (some b2) := by
    have q := k5 0 mv (.map 2) rfl rfl
    cases q with
    | map hb2 =>
      rw [m1] at hb2
      injection hb2 with hb2
      injection hb2 with e1 e2
      rw [e1]
  subst hmv
  generalize hu : AV.func g [.ptr 1 0] = uf at V1
  cases V1 <;> cases hu
  rename_i caps hl hv
  obtain ⟨pv, rfl⟩ : ∃ pv, caps = #[pv] := by
    have hl : caps.size = 1 := hl
    exact ⟨caps[0], by apply Array.ext; · simpa using hl
                       · intro i hi1 hi2; have : i = 0 := by omega
                         subst this; rfl⟩
  have hpv : pv = .pointer (some ⟨b1, 0, none⟩) := by
    have q := hv 0 pv (.ptr 1 0) rfl rfl
    cases q with
    | ptr hb1 =>
      rw [k1] at hb1
      injection hb1 with hb1
      injection hb1 with e1 e2
      rw [e1]
  subst hpv
  generalize hM : MB E (lk [(0, AObj.row t 1 n (fun i => [.str (f i)]) false), (1, .cells [.map 2] ct), (2, .amap es)]) bs = M at *
  generalize huo : AV.own 0 n = uo at V0
  cases V0 <;> cases huo
  case func.refl.ownnil.refl A x1 x2 =>
    have hn0 : n = 0 := by assumption
    clear x1 x2
    subst hn0
    refine (hN A 0 _ w).mono ?_
    rintro e w' ⟨rfl, rfl⟩
    exact ⟨_, .tuple [], [(0, .row t 1 0 (fun i => [.str (f i)]) false), (1, .cells [.map 2] ct), (2, .amap es)], bs, rfl, ⟨rfl, f, .refl _, fun i j _ hj => absurd hj (nZ7 j), rfl⟩, hW, .tuple rfl (fun j v u hv hu => by simp at hu), hbs f⟩
  case func.refl.own.refl bk c x1 x2 x3 =>
    have hb : bs 0 = some (.blk bk c) := by assumption
    clear x1 x2 x3
    have hrow := hW.obj 0 _ rfl
    rcases hrow with ⟨h, _⟩ | ⟨bk', c', vs, hb', hh, hnc', hcm', hsz, hln, hone, hval⟩
    · rw [h] at hb; cases hb
    obtain ⟨rfl, rfl⟩ : bk' = bk ∧ c' = c := by
      rw [hb'] at hb; injection hb with hb; injection hb with e1 e2; exact ⟨e1, e2⟩
    have n1 : b1 ≠ bk' := fun e => by subst e; exact absurd (hW.sep 1 0 _ _ _ _ _ rfl rfl rfl rfl k1 hb') (by decide)
    have n2 : b2 ≠ bk' := fun e => by subst e; exact absurd (hW.sep 2 0 _ _ _ _ _ rfl rfl rfl rfl m1 hb') (by decide)
    have hblk : bk' < w.heap.size := hW.lt _ _ _ hb'
    have hds : (((List.range n).map f).toArray).size = n := by simp
    have vsz : vs.size = c' := by rw [hsz, Nat.mul_one]
    have vstr : ∀ i (hi : i < n), vs[i]? = some (strV (f i)) := fun i hi => by
      have hlt : i < vs.size := by omega
      have := hval i hi 0 vs[i] (.str (f i)) (by omega) (by rw [Nat.mul_one]; exact Array.getElem?_eq_getElem hlt) rfl
      rw [Array.getElem?_eq_getElem hlt, this.str_iff]; rfl
    have hH : Sort.Holds strV w bk' 0 ((List.range n).map f).toArray := by
      intro q hq
      rw [hds] at hq
      rw [arr_get n f hq, Nat.zero_add]
      refine ⟨?_, ?_⟩
      · rw [cell_of_row w bk' q vs t (0, 0) hh]; exact vstr q hq
      · simp [World.frozen?, hh]
    have hheap : ∀ (m : Nat) (dk : Array (List UInt8)) (os : Array Obj) (b : Nat), b < w.heap.size → b ≠ bk' → (sortWorld strV w bk' 0 m dk os).heap[b]? = w.heap[b]? := fun m dk os b hb hne => by
      show ((putRow strV (Sort.ahead w m) bk' 0 dk).heap ++ os)[b]? = _
      rw [Array.getElem?_append_left (by show b < (putRow _ _ _ _ _).heap.size; rw [show (putRow strV (Sort.ahead w m) bk' 0 dk).heap.size = w.heap.size from by simp [putRow, mapBlock]]; exact hb)]
      simp [putRow, mapBlock, Array.getElem?_modify, Ne.symm hne]
    have hsize : ∀ (m : Nat) (dk : Array (List UInt8)) (os : Array Obj), w.heap.size ≤ (sortWorld strV w bk' 0 m dk os).heap.size := fun m dk os => by simp [sortWorld, grow, putRow, mapBlock]
    have hC : CmpLays1 C.P g #[.pointer (some ⟨b1, 0, none⟩)] strV cf bk' 0 ((List.range n).map f).toArray.size w := by
      intro m os dk _ x y
      have lt1 := hW.lt _ _ _ k1
      have lt2 := hW.lt _ _ _ m1
      have hb1 := hheap m dk os b1 lt1 n1
      have hb2 := hheap m dk os b2 lt2 n2
      have hsz2 := hsize m dk os
      have hMk : M bk' := by rw [← hM]; exact .inr ⟨0, _, c', rfl, rfl, hb'⟩
      have data : ∀ {v : Value} {u : AV}, nref u = true → V w M bs v u → V (sortWorld strV w bk' 0 m dk os) (fun _ => False) nob v u := fun hu hv => hv.free (fun _ _ _ h => h) (fun b hb hm => hheap m dk os b hb (fun e => hm (e ▸ hMk))) hsz2 nob hu
      have := ADet.grown (hc x y) rfl (w := sortWorld strV w bk' 0 m dk os) (cargs := [strV x, strV y, .pointer (some ⟨b1, 0, none⟩)]) rfl (fun j v u hv hu => ?_)
      · simpa [valA] using this
      match j with
      | 0 => obtain rfl := oJ7 hv; obtain rfl := oJ7 hu; exact .str rfl
      | 1 => obtain rfl := oJ7 hv; obtain rfl := oJ7 hu; exact .str rfl
      | 2 =>
        obtain rfl := oJ7 hv; obtain rfl := oJ7 hu
        refine .vptr (fun _ => .map (some b2)) (fun h => h) (by show b1 < _; omega) (fun j hj => ?_) (fun j hj => rfl) (fun j u hu => ?_)
        · have hj : j = 0 := by simpa using hj
          subst hj
          show World.cell? _ ((⟨b1, 0, none⟩ : Addr).add 0) = _
          rw [Addr.add_lit, cell_of_row _ b1 _ _ _ (0, 0) (hb1.trans k2)]
          rfl
        · match j with
          | 0 =>
            obtain rfl := oJ7 hu
            have ent : ∀ (i : Nat) (e : MapEntry), ents[i]? = some e → ∃ p, es[i]? = some p ∧ p ∈ es := fun i e he => by
              have : i < es.length := by rw [← m3.1]; exact (Array.getElem?_eq_some_iff.1 he).1
              exact ⟨es[i], List.getElem?_eq_getElem this, List.getElem_mem this⟩
            refine .vmap (fun h => h) (by show b2 < _; omega) (hb2.trans m2) m3.1 (fun i e u he hu => ?_) (fun i e u he hu => ?_)
            · obtain ⟨p, hp, hpe⟩ := ent i e he
              obtain rfl : p.1 = u := by simpa [entF, hp] using hu
              exact data (hes p hpe).1 (m3.2 i e p he hp).1
            · obtain ⟨p, hp, hpe⟩ := ent i e he
              obtain rfl : p.2 = u := by simpa [entF, hp] using hu
              exact data (hes p hpe).2 (m3.2 i e p he hp).2
          | j + 1 => simp at hu
      | j + 3 => simp at hv
    have hcall := hS #[.pointer (some ⟨b1, 0, none⟩)] bk' c' ((List.range n).map f).toArray w hC hH hblk (by rw [hds]; exact hn)
    rw [hds] at hcall
    refine hcall.mono ?_
    rintro e w' ⟨rfl, d', m, os, hperm, hsort, rfl⟩
    have hd' : d'.size = n := hperm.1.trans hds
    have hlist : d'.toList = (List.range n).map (fun i => d'[i]!) := by
      apply List.ext_getElem?
      intro i
      rw [List.getElem?_map, Array.getElem?_toList]
      by_cases hi : i < n
      · rw [List.getElem?_range hi, Option.map_some, getElem!_pos d' i (by omega), Array.getElem?_eq_getElem (by omega)]
      · rw [Array.getElem?_eq_none (by omega), List.getElem?_eq_none (by simp; omega)]; rfl
    have hnew : (sortWorld strV w bk' 0 m d' os).heap[bk']? = some (.cells (putCells strV 0 d' vs) t (0, 0)) := by
      show ((putRow strV (Sort.ahead w m) bk' 0 d').heap ++ os)[bk']? = _
      rw [Array.getElem?_append_left (by rw [show (putRow strV (Sort.ahead w m) bk' 0 d').heap.size = w.heap.size from by simp [putRow, mapBlock]]; exact hblk)]
      simp [putRow, mapBlock, Array.getElem?_modify, hh, onCells]
    have hcell : ∀ i, i < n → ∀ v, (putCells strV 0 d' vs)[i]? = some v → v = strV d'[i]! := fun i hi v hv => by
      have hlt2 : i < vs.size := by omega
      simp only [putCells, Array.getElem?_mapIdx, Array.getElem?_eq_getElem hlt2, Option.map_some, hd', zL7, Nat.zero_add, hi, and_self, if_true, Nat.sub_zero, sI7] at hv
      exact hv.symm
    refine ⟨_, .tuple [], [(0, .row t 1 n (fun i => [.str d'[i]!]) false), (1, .cells [.map 2] ct), (2, .amap es)], bs, rfl, ⟨rfl, fun i => d'[i]!, ?_, fun i j hij hj => ?_, rfl⟩, ?_, .tuple rfl (fun j v u hv hu => by simp at hu), hbs fun i => d'[i]!⟩
    · have := hperm.2.2
      have e1 : d'.extract 0 n = d' := by rw [← hd']; exact Array.extract_size
      have e2 : ((List.range n).map f).toArray.extract 0 n = ((List.range n).map f).toArray := by
        have := Array.extract_size (xs := ((List.range n).map f).toArray)
        rwa [hds] at this
      rw [e1, e2] at this
      rw [← hlist]; simpa using this
    · have := hsort i j (zL7 _) hij hj
      simpa [ltOf] using this
    · rw [← hM] at *
      have back : ∀ (r : Nat) (o : AObj), lk [(0, AObj.row t 1 n (fun i => [.str d'[i]!]) false), (1, .cells [.map 2] ct), (2, .amap es)] r = some o → o.mut = true ∧ (r = 0 ∨ lk [(0, AObj.row t 1 n (fun i => [.str (f i)]) false), (1, .cells [.map 2] ct), (2, .amap es)] r = some o) ∧
          ∃ o', lk [(0, AObj.row t 1 n (fun i => [.str (f i)]) false), (1, .cells [.map 2] ct), (2, .amap es)] r = some o' ∧ o'.mut = true := fun r o ho => by
        match r, ho with
        | 0, ho => obtain rfl := oJ7 ho; exact ⟨rfl, .inl rfl, _, rfl, rfl⟩
        | 1, ho => obtain rfl := oJ7 ho; exact ⟨rfl, .inr rfl, _, rfl, rfl⟩
        | 2, ho => obtain rfl := oJ7 ho; exact ⟨rfl, .inr rfl, _, rfl, rfl⟩
        | r + 3, ho => rw [wa3, if_neg (by show ¬ 0 = r + 3; omega), wa3, if_neg (by show ¬ 1 = r + 3; omega), wa3, if_neg (by show ¬ 2 = r + 3; omega)] at ho; cases ho
      have hmb : ∀ b, mutB (lk [(0, AObj.row t 1 n (fun i => [.str d'[i]!]) false), (1, .cells [.map 2] ct), (2, .amap es)]) bs b → mutB (lk [(0, AObj.row t 1 n (fun i => [.str (f i)]) false), (1, .cells [.map 2] ct), (2, .amap es)]) bs b := by
        rintro b ⟨r, o, c2, ho, hm, hb2⟩
        obtain ⟨_, _, o', q1, q2⟩ := back r o ho
        exact ⟨r, o', c2, q1, q2, hb2⟩
      refine (hW.next (w' := sortWorld strV w bk' 0 m d' os) (fun b => b = bk') (fun i h hi => hi) (fun i b c' hi => .inl hi) (fun b hb2 => by subst hb2; exact ⟨0, _, c', rfl, rfl, hb'⟩) (fun b hb2 hne => hheap m d' os b hb2 hne) (hsize m d' os) (fun b hb2 => .inl (hmb b hb2)) (fun hSt i o' ho => ?_)
        (fun i j o1 o2 b c1 c2 hi hj _ _ bi bj => ?_) (fun i t' sz' n' f' b c2 ho hb2 => ?_) rfl ⟨rfl, fun _ => Nat.le_add_right _ _⟩ rfl).2
      · obtain ⟨_, hr | hr, _⟩ := back i o' ho
        · subst hr
          obtain rfl := oJ7 ho
          refine .inr (.inr ⟨bk', c', _, hb', hnew, hnc', hcm', by simp [putCells, hsz], fun i hi => rfl, fun i hi j hj v hv => ?_, fun i hi j v u hj hv hu => ?_⟩)
          · obtain rfl : j = 0 := by omega
            rw [Nat.mul_one] at hv
            rw [hcell i hi v hv]; rfl
          · obtain rfl : j = 0 := by omega
            rw [Nat.mul_one] at hv
            rw [hcell i hi v hv]
            obtain rfl := oJ7 hu
            exact .str rfl
        · by_cases h0 : i = 0
          · subst h0
            obtain rfl := oJ7 ho
            refine .inr (.inr ⟨bk', c', _, hb', hnew, hnc', hcm', by simp [putCells, hsz], fun i hi => rfl, fun i hi j hj v hv => ?_, fun i hi j v u hj hv hu => ?_⟩)
            · obtain rfl : j = 0 := by omega
              rw [Nat.mul_one] at hv
              rw [hcell i hi v hv]; rfl
            · obtain rfl : j = 0 := by omega
              rw [Nat.mul_one] at hv
              rw [hcell i hi v hv]
              obtain rfl := oJ7 hu
              exact .str rfl
          · refine .inl ⟨hr, fun b c3 hbi e => ?_⟩
            subst e
            obtain ⟨hm1, _⟩ := back i o' ho
            exact h0 (hW.sep i 0 o' _ _ c3 c' hr rfl hm1 rfl hbi hb')
      · obtain ⟨_, _, p1, q1, q2⟩ := back i o1 hi
        obtain ⟨_, _, p2, q3, q4⟩ := back j o2 hj
        exact hW.sep i j p1 p2 b c1 c2 q1 q3 q2 q4 bi bj
      · obtain ⟨q, _⟩ := back i _ ho
        cases q
end Go.Eng
namespace Go.Eng
open Go.Proofs Go.RowKit
variable {C:Ctx}
set_option maxRecDepth 20000
theorem nf_ncmp(x y:List UInt8)(n:Nat)(f:Nat->List AV)(R:oR7):wpFn te [(94,.det wlu),(95,.det wmu),(93,.det S_or)] [] 0 Tryz.f92 [.str x,.str y,.vptr [.vmap n f]] [] R=(letI z4:=TI.desc (TI.mk TypeDesc.string 1 16 (Value.string (ByteArray.mk #[])) false);letI z0:=zvA (.agg [.str ([]),.q 0,.q 0,.q 0,.nil,.nil,.nil]);letI z2:=Option.getD (mget (wds n f) (.str y)) z0;letI z14:=wap (way z2 (0+1));letI z12:=way z2 (0+1+1+1+1);letI z10:=wap (way z2 (0+1+1));letI z8:=way z2 (0+1+1+1+1+1);letI z6:=way z2 (0+1+1+1+1+1+1);letI z1:=Option.getD (mget (wds n f) (.str x)) z0;letI z13:=wap (way z1 (0+1));letI z11:=way z1 (0+1+1+1+1);letI z9:=wap (way z1 (0+1+1));letI z7:=way z1 (0+1+1+1+1+1);letI z5:=way z1 (0+1+1+1+1+1+1);letI z3:=waq (TI.sz (TI.mk (TypeDesc.int IntKind.i64) 1 8 (Value.int IntKind.i64 0) false)) (.q (cmpS (wbx (way z1 0)) (wbx (way z2 0))):: .q (cmpI z13 z14):: .q (cmpI z9 z10):: .q (cmpS x y)::List.append [] wbt);(wbl z4 (wds n f)/\.agg [.str (wbx (way z1 0)),.q z13,.q z9,.q (wap (way z1 (0+1+1+1))),.view (vwS z11) (vwN z11) (vwF z11),.view (vwS z7) (vwN z7) (vwF z7),.view (vwS z5) (vwN z5) (vwF z5)]=Option.getD (mget (wds n f) (.str x)) z0)/\(wbl z4 (wds n f)/\.agg [.str (wbx (way z2 0)),.q z14,.q z10,.q (wap (way z2 (0+1+1+1))),.view (vwS z12) (vwN z12) (vwF z12),.view (vwS z8) (vwN z8) (vwF z8),.view (vwS z6) (vwN z6) (vwF z6)]=Option.getD (mget (wds n f) (.str y)) z0)/\True/\True/\True/\True/\(4<=16777216/\1=1/\4<=9223372036854775807)/\(∀(i:Nat),i<4->true=true)/\(3=3/\false=false/\4=4/\4<=100/\∀(i:Nat),i<4->[AV.q (List.getD [cmpS (wbx (way z1 0)) (wbx (way z2 0)),cmpI z13 z14,cmpI z9 z10,cmpS x y] i (0:Int))]=[.q (vInt z3 i)])/\(∀(i:Nat),i<4->true=true)/\R (.q (orN (vInt z3) 4)) []):=by kernel_rfl
theorem ncmp_ok(hP:C.P=Tryz.prog)(es:List (AV×AV))(hk:wbl .string es)(hs:∀x,wcj wi0 (gotN es x)=gotN es x)(x y:List UInt8):
  ADet C 92 [.str x,.str y,.vptr [.vmap es.length (entF es)]] [] (.q (cmpN es x y)) []:=by
 refine wa4.wpL (prg hP) [(94,.det wlu),(95,.det wmu),(93,.det S_or)] [] 0 (.cons (scmp_ok hP) (.cons (icmp_ok hP) (.cons (or_ok hP) .nil))) (hP ▸ Tryz.func92) rfl rfl rfl [] (by kernel_rfl) trivial ?_;rw[nf_ncmp,entsV_F,orN_eq];have four:∀ {p:Nat->Prop},p 0->p 1->p 2->p 3->∀i,i<4->p i:=λh0 h1 h2 h3 i hi=>by
  match i,hi with
  |0,_=>exact h0
  |1,_=>exact h1
  |2,_=>exact h2
  |3,_=>exact h3
 exact⟨⟨hk,hs x⟩,⟨hk,hs y⟩,trivial,trivial,trivial,trivial,⟨by omega,rfl,by omega⟩,four rfl rfl rfl rfl,⟨rfl,rfl,rfl,by omega,four rfl rfl rfl rfl⟩,four rfl rfl rfl rfl,rfl,rfl⟩
end Go.Eng
namespace Go.Proofs
open Go.RowKit
theorem Tryz.slSBlk:Tryz.prog.underlying 93=some (.slice 115):=by kernel_rfl
set_option maxHeartbeats 1000000 in
set_option maxRecDepth 100000 in
theorem Tryz.clone_nilBlk(n c:Nat)(w:World):Calls Tryz.prog 109 #[.slice none n c] w λe w'=>e= .returned (.slice none 0 0)/\w'=w:=by
 have q:∀(w:World) (a:Option Addr) (n c n' c':Nat),(binOp .eql 93 (.slice a n c) (.slice none n' c')).run Tryz.prog w= .ok (.bool a.isNone) w:=λw a n c n' c'=>Lib.run_eql_slice_nil w _ _ a n c n' c' Tryz.slSBlk
 go_enter Tryz.func109,Tryz.ntmps109
 go_wp2
 go_ret
 exact⟨rfl,rfl⟩
set_option maxHeartbeats 1000000 in
set_option maxRecDepth 100000 in
theorem Tryz.clone_noneBlk(a:Addr)(c:Nat)(w:World):Calls Tryz.prog 109 #[.slice (some a) 0 c] w λe w'=>e= .returned (.slice (some ⟨w.heap.size,0,none⟩) 0 0)/\w'=w.alloc (.cells #[] 115):=by
 have q:∀(w:World) (a:Option Addr) (n c n' c':Nat),(binOp .eql 93 (.slice a n c) (.slice none n' c')).run Tryz.prog w= .ok (.bool a.isNone) w:=λw a n c n' c'=>Lib.run_eql_slice_nil w _ _ a n c n' c' Tryz.slSBlk
 go_enter Tryz.func109,Tryz.ntmps109
 go_wp2
 go_ret
 exact⟨rfl,rfl⟩
theorem Tryz.slSMsg:Tryz.prog.underlying 22=some (.slice 40):=by kernel_rfl
set_option maxHeartbeats 1000000 in
set_option maxRecDepth 100000 in
theorem Tryz.clone_nilMsg(n c:Nat)(w:World):Calls Tryz.prog 140 #[.slice none n c] w λe w'=>e= .returned (.slice none 0 0)/\w'=w:=by
 have q:∀(w:World) (a:Option Addr) (n c n' c':Nat),(binOp .eql 22 (.slice a n c) (.slice none n' c')).run Tryz.prog w= .ok (.bool a.isNone) w:=λw a n c n' c'=>Lib.run_eql_slice_nil w _ _ a n c n' c' Tryz.slSMsg
 go_enter Tryz.func140,Tryz.ntmps140
 go_wp2
 go_ret
 exact⟨rfl,rfl⟩
set_option maxHeartbeats 1000000 in
set_option maxRecDepth 100000 in
theorem Tryz.clone_noneMsg(a:Addr)(c:Nat)(w:World):Calls Tryz.prog 140 #[.slice (some a) 0 c] w λe w'=>e= .returned (.slice (some ⟨w.heap.size,0,none⟩) 0 0)/\w'=w.alloc (.cells #[] 40):=by
 have q:∀(w:World) (a:Option Addr) (n c n' c':Nat),(binOp .eql 22 (.slice a n c) (.slice none n' c')).run Tryz.prog w= .ok (.bool a.isNone) w:=λw a n c n' c'=>Lib.run_eql_slice_nil w _ _ a n c n' c' Tryz.slSMsg
 go_enter Tryz.func140,Tryz.ntmps140
 go_wp2
 go_ret
 exact⟨rfl,rfl⟩
theorem Tryz.slSRow:Tryz.prog.underlying 46=some (.slice 61):=by kernel_rfl
set_option maxHeartbeats 1000000 in
set_option maxRecDepth 100000 in
theorem Tryz.clone_nilRow(n c:Nat)(w:World):Calls Tryz.prog 141 #[.slice none n c] w λe w'=>e= .returned (.slice none 0 0)/\w'=w:=by
 have q:∀(w:World) (a:Option Addr) (n c n' c':Nat),(binOp .eql 46 (.slice a n c) (.slice none n' c')).run Tryz.prog w= .ok (.bool a.isNone) w:=λw a n c n' c'=>Lib.run_eql_slice_nil w _ _ a n c n' c' Tryz.slSRow
 go_enter Tryz.func141,Tryz.ntmps141
 go_wp2
 go_ret
 exact⟨rfl,rfl⟩
set_option maxHeartbeats 1000000 in
set_option maxRecDepth 100000 in
theorem Tryz.clone_noneRow(a:Addr)(c:Nat)(w:World):Calls Tryz.prog 141 #[.slice (some a) 0 c] w λe w'=>e= .returned (.slice (some ⟨w.heap.size,0,none⟩) 0 0)/\w'=w.alloc (.cells #[] 61):=by
 have q:∀(w:World) (a:Option Addr) (n c n' c':Nat),(binOp .eql 46 (.slice a n c) (.slice none n' c')).run Tryz.prog w= .ok (.bool a.isNone) w:=λw a n c n' c'=>Lib.run_eql_slice_nil w _ _ a n c n' c' Tryz.slSRow
 go_enter Tryz.func141,Tryz.ntmps141
 go_wp2
 go_ret
 exact⟨rfl,rfl⟩
theorem Tryz.slSRat:Tryz.prog.underlying 47=some (.slice 97):=by kernel_rfl
set_option maxHeartbeats 1000000 in
set_option maxRecDepth 100000 in
theorem Tryz.clone_nilRat(n c:Nat)(w:World):Calls Tryz.prog 142 #[.slice none n c] w λe w'=>e= .returned (.slice none 0 0)/\w'=w:=by
 have q:∀(w:World) (a:Option Addr) (n c n' c':Nat),(binOp .eql 47 (.slice a n c) (.slice none n' c')).run Tryz.prog w= .ok (.bool a.isNone) w:=λw a n c n' c'=>Lib.run_eql_slice_nil w _ _ a n c n' c' Tryz.slSRat
 go_enter Tryz.func142,Tryz.ntmps142
 go_wp2
 go_ret
 exact⟨rfl,rfl⟩
set_option maxHeartbeats 1000000 in
set_option maxRecDepth 100000 in
theorem Tryz.clone_noneRat(a:Addr)(c:Nat)(w:World):Calls Tryz.prog 142 #[.slice (some a) 0 c] w λe w'=>e= .returned (.slice (some ⟨w.heap.size,0,none⟩) 0 0)/\w'=w.alloc (.cells #[] 97):=by
 have q:∀(w:World) (a:Option Addr) (n c n' c':Nat),(binOp .eql 47 (.slice a n c) (.slice none n' c')).run Tryz.prog w= .ok (.bool a.isNone) w:=λw a n c n' c'=>Lib.run_eql_slice_nil w _ _ a n c n' c' Tryz.slSRat
 go_enter Tryz.func142,Tryz.ntmps142
 go_wp2
 go_ret
 exact⟨rfl,rfl⟩
end Go.Proofs
namespace Go.Eng
open Go.Proofs Go.RowKit
variable {C:Ctx} [C.Loose]
set_option maxRecDepth 20000
theorem w0k(n:Nat)(f:Nat->List AV)(R:oR7):wpFn te [] [] 0 Tryz.f109 [.view 2 (n+1) f] [] R=(letI z0:=waq (TI.sz wge) (List.flatten (List.replicate 0 [.q 0,.q 0]));(0<=16777216/\2=2/\0<=9223372036854775807)/\(2=2/\0<=0/\2=2/\115=115/\2=2/\0+(n+1)<=9223372036854775807/\(0+(n+1)) * TI.bytes wge<=140737488355328)/\(∀(i:Nat),i<0+(n+1)->nrefL (apF 0 z0 f i)=true)/\∃(O':oL7),wae [(0,.row 115 2 (0+(n+1)) (apF 0 z0 f) false)] O'/\R (.own 0 (0+(n+1))) O'):=by kernel_rfl
theorem w0j(n:Nat)(f:Nat->List AV)(R:oR7):wpFn te [] [] 0 Tryz.f140 [.view 15 (n+1) f] [] R=(letI z0:=waq (TI.sz wfr) (List.flatten (List.replicate 0 [.str ([]),.q 0,.q 0,.str ([]),.str ([]),.q 0,.q 0,.q 0,.q 0,.str ([]),.str ([]),.str ([]),.q 0,.str ([]),.q 0]));(0<=16777216/\15=15/\0<=9223372036854775807)/\(15=15/\0<=0/\15=15/\40=40/\15=15/\0+(n+1)<=9223372036854775807/\(0+(n+1)) * TI.bytes wfr<=140737488355328)/\(∀(i:Nat),i<0+(n+1)->nrefL (apF 0 z0 f i)=true)/\∃(O':oL7),wae [(0,.row 40 15 (0+(n+1)) (apF 0 z0 f) false)] O'/\R (.own 0 (0+(n+1))) O'):=by kernel_rfl
theorem w0h(n:Nat)(f:Nat->List AV)(R:oR7):wpFn te [] [] 0 Tryz.f141 [.view 5 (n+1) f] [] R=(letI z0:=waq (TI.sz wdn) (List.flatten (List.replicate 0 [.str ([]),.str ([]),.q 0,.q 0,.q 0]));(0<=16777216/\5=5/\0<=9223372036854775807)/\(5=5/\0<=0/\5=5/\61=61/\5=5/\0+(n+1)<=9223372036854775807/\(0+(n+1)) * TI.bytes wdn<=140737488355328)/\(∀(i:Nat),i<0+(n+1)->nrefL (apF 0 z0 f i)=true)/\∃(O':oL7),wae [(0,.row 61 5 (0+(n+1)) (apF 0 z0 f) false)] O'/\R (.own 0 (0+(n+1))) O'):=by kernel_rfl
theorem w0i(n:Nat)(f:Nat->List AV)(R:oR7):wpFn te [] [] 0 Tryz.f142 [.view 5 (n+1) f] [] R=(letI z0:=waq (TI.sz wfq) (List.flatten (List.replicate 0 [.str ([]),.str ([]),.q 0,.q 0,.nil]));(0<=16777216/\5=5/\0<=9223372036854775807)/\(5=5/\0<=0/\5=5/\97=97/\5=5/\0+(n+1)<=9223372036854775807/\(0+(n+1)) * TI.bytes wfq<=140737488355328)/\(∀(i:Nat),i<0+(n+1)->nrefL (apF 0 z0 f i)=true)/\∃(O':oL7),wae [(0,.row 97 5 (0+(n+1)) (apF 0 z0 f) false)] O'/\R (.own 0 (0+(n+1))) O'):=by kernel_rfl
theorem wk7(w:World)(o:Obj):Below w.heap.size w (w.alloc o):=(Below.refl _ w).alloc (lR7 _) _
theorem wfd{w:World}{M:Nat->Prop}{bs:Nat->Option Hd}{A:Option Addr}{sz:Nat}{f:Nat->List AV}:V w M bs (.slice A 0 0) (.view sz 0 f):=
 .view ⟨0,0,none⟩ (λ_ _=>default) (lR7 _) (zL7 _) (λh=>absurd h (Nat.lt_irrefl 0)) (λi h=>absurd h (nZ7 i)) (λi h=>absurd h (nZ7 i)) (λi h=>absurd h (nZ7 i)) (λi h=>absurd h (nZ7 i))
theorem clBlk0(hP:C.P=Tryz.prog)(f:Nat->List AV):wan C 109 [.view 2 0 f] [] λu' O=>u'= .view 2 0 f/\O=[]:=by
 refine wan.below ⟨_,hP ▸ Tryz.func109,rfl,by decide⟩ λw M cargs hlaid _ hM hl hv=>?_;obtain⟨a,rfl⟩:=mem1 hl;have V0:=hv 0 _ _ rfl rfl
 cases V0 with | @view _ A _ c _ _ ad cv hn hcm hA hl hc h1 hv'=>
 rw[hP]
 cases A with
 |none=>
  refine(Tryz.clone_nilBlk 0 c w).mono ?_;rintro e w' ⟨rfl,rfl⟩;exact⟨_,rfl,Below.refl _ _,wfd⟩
 |some a=>
  refine(Tryz.clone_noneBlk a c w).mono ?_;rintro e w' ⟨rfl,rfl⟩;exact⟨_,rfl,wk7 _ _,wfd⟩
theorem clMsg0(hP:C.P=Tryz.prog)(f:Nat->List AV):wan C 140 [.view 15 0 f] [] λu' O=>u'= .view 15 0 f/\O=[]:=by
 refine wan.below ⟨_,hP ▸ Tryz.func140,rfl,by decide⟩ λw M cargs hlaid _ hM hl hv=>?_;obtain⟨a,rfl⟩:=mem1 hl;have V0:=hv 0 _ _ rfl rfl
 cases V0 with | @view _ A _ c _ _ ad cv hn hcm hA hl hc h1 hv'=>
 rw[hP]
 cases A with
 |none=>
  refine(Tryz.clone_nilMsg 0 c w).mono ?_;rintro e w' ⟨rfl,rfl⟩;exact⟨_,rfl,Below.refl _ _,wfd⟩
 |some a=>
  refine(Tryz.clone_noneMsg a c w).mono ?_;rintro e w' ⟨rfl,rfl⟩;exact⟨_,rfl,wk7 _ _,wfd⟩
theorem clRow0(hP:C.P=Tryz.prog)(f:Nat->List AV):wan C 141 [.view 5 0 f] [] λu' O=>u'= .view 5 0 f/\O=[]:=by
 refine wan.below ⟨_,hP ▸ Tryz.func141,rfl,by decide⟩ λw M cargs hlaid _ hM hl hv=>?_;obtain⟨a,rfl⟩:=mem1 hl;have V0:=hv 0 _ _ rfl rfl
 cases V0 with | @view _ A _ c _ _ ad cv hn hcm hA hl hc h1 hv'=>
 rw[hP]
 cases A with
 |none=>
  refine(Tryz.clone_nilRow 0 c w).mono ?_;rintro e w' ⟨rfl,rfl⟩;exact⟨_,rfl,Below.refl _ _,wfd⟩
 |some a=>
  refine(Tryz.clone_noneRow a c w).mono ?_;rintro e w' ⟨rfl,rfl⟩;exact⟨_,rfl,wk7 _ _,wfd⟩
theorem clRat0(hP:C.P=Tryz.prog)(f:Nat->List AV):wan C 142 [.view 5 0 f] [] λu' O=>u'= .view 5 0 f/\O=[]:=by
 refine wan.below ⟨_,hP ▸ Tryz.func142,rfl,by decide⟩ λw M cargs hlaid _ hM hl hv=>?_;obtain⟨a,rfl⟩:=mem1 hl;have V0:=hv 0 _ _ rfl rfl
 cases V0 with | @view _ A _ c _ _ ad cv hn hcm hA hl hc h1 hv'=>
 rw[hP]
 cases A with
 |none=>
  refine(Tryz.clone_nilRat 0 c w).mono ?_;rintro e w' ⟨rfl,rfl⟩;exact⟨_,rfl,Below.refl _ _,wfd⟩
 |some a=>
  refine(Tryz.clone_noneRat a c w).mono ?_;rintro e w' ⟨rfl,rfl⟩;exact⟨_,rfl,wk7 _ _,wfd⟩
theorem wk9(g f:Nat->List AV):apF 0 g f=f:=by
 funext i;simp[apF]
theorem wjk{t:TypeId}{k n:Nat}{f:Nat->List AV}{R:AV->List (Nat×AObj)->Prop}(h:R (.own 0 n) [(0,.row t k n f false)]):∃(O':List (Nat×AObj)),wae [(0,.row t k n f false)] O'/\R (.own 0 n) O':=⟨_,wal _,h⟩
theorem clBlk1(hP:C.P=Tryz.prog)(n:Nat)(f:Nat->List AV)(hn:n+1<=100000)(hf:∀i,i<n+1->nrefL (f i)=true){R:AV->List (Nat×AObj)->Prop}(h:R (.own 0 (n+1)) [(0,.row 115 2 (n+1) f false)]):wan C 109 [.view 2 (n+1) f] [] R:=by
 have _:C.Loose:=inferInstance;refine wa4.wpL (prg hP) [] [] 0 .nil (hP ▸ Tryz.func109) rfl rfl rfl [] (by kernel_rfl) trivial ?_;rw[w0k,wk9,Nat.zero_add];refine⟨⟨by omega,rfl,by omega⟩,⟨rfl,by omega,rfl,rfl,rfl,by omega,?_⟩,hf,wjk h⟩;show (n+1) * _<=_;refine Nat.le_trans (Nat.mul_le_mul_right _ hn) (by decide)
theorem w3e(hP:C.P=Tryz.prog):waf C 109 wm6:=by
 rintro args objs U Os vc h hvc;unfold wm6 at h;split at h<;>cases h;rename_i n f;obtain⟨hn,hf⟩:=hvc
 cases n with
 |zero=>exact clBlk0 hP f
 |succ n=>
  refine wan.frzO 0 (clBlk1 hP n f hn hf ⟨hf,?_⟩);have hb:Nat.ble (n+1) (n+1)=true:=Nat.ble_eq_true_of_le (lR7 _)
  constructor
  ·simp[frzC,frzA,frz,hb]
  ·rfl
theorem clMsg1(hP:C.P=Tryz.prog)(n:Nat)(f:Nat->List AV)(hn:n+1<=100000)(hf:∀i,i<n+1->nrefL (f i)=true){R:AV->List (Nat×AObj)->Prop}(h:R (.own 0 (n+1)) [(0,.row 40 15 (n+1) f false)]):wan C 140 [.view 15 (n+1) f] [] R:=by
 have _:C.Loose:=inferInstance;refine wa4.wpL (prg hP) [] [] 0 .nil (hP ▸ Tryz.func140) rfl rfl rfl [] (by kernel_rfl) trivial ?_;rw[w0j,wk9,Nat.zero_add];refine⟨⟨by omega,rfl,by omega⟩,⟨rfl,by omega,rfl,rfl,rfl,by omega,?_⟩,hf,wjk h⟩;show (n+1) * _<=_;refine Nat.le_trans (Nat.mul_le_mul_right _ hn) (by decide)
theorem wvz(hP:C.P=Tryz.prog):waf C 140 whk:=by
 rintro args objs U Os vc h hvc;unfold whk at h;split at h<;>cases h;rename_i n f;obtain⟨hn,hf⟩:=hvc
 cases n with
 |zero=>exact clMsg0 hP f
 |succ n=>
  refine wan.frzO 0 (clMsg1 hP n f hn hf ⟨hf,?_⟩);have hb:Nat.ble (n+1) (n+1)=true:=Nat.ble_eq_true_of_le (lR7 _)
  constructor
  ·simp[frzC,frzA,frz,hb]
  ·rfl
theorem clRow1(hP:C.P=Tryz.prog)(n:Nat)(f:Nat->List AV)(hn:n+1<=100000)(hf:∀i,i<n+1->nrefL (f i)=true){R:AV->List (Nat×AObj)->Prop}(h:R (.own 0 (n+1)) [(0,.row 61 5 (n+1) f false)]):wan C 141 [.view 5 (n+1) f] [] R:=by
 have _:C.Loose:=inferInstance;refine wa4.wpL (prg hP) [] [] 0 .nil (hP ▸ Tryz.func141) rfl rfl rfl [] (by kernel_rfl) trivial ?_;rw[w0h,wk9,Nat.zero_add];refine⟨⟨by omega,rfl,by omega⟩,⟨rfl,by omega,rfl,rfl,rfl,by omega,?_⟩,hf,wjk h⟩;show (n+1) * _<=_;refine Nat.le_trans (Nat.mul_le_mul_right _ hn) (by decide)
theorem wvx(hP:C.P=Tryz.prog):waf C 141 whi:=by
 rintro args objs U Os vc h hvc;unfold whi at h;split at h<;>cases h;rename_i n f;obtain⟨hn,hf⟩:=hvc
 cases n with
 |zero=>exact clRow0 hP f
 |succ n=>
  refine wan.frzO 0 (clRow1 hP n f hn hf ⟨hf,?_⟩);have hb:Nat.ble (n+1) (n+1)=true:=Nat.ble_eq_true_of_le (lR7 _)
  constructor
  ·simp[frzC,frzA,frz,hb]
  ·rfl
theorem clRat1(hP:C.P=Tryz.prog)(n:Nat)(f:Nat->List AV)(hn:n+1<=100000)(hf:∀i,i<n+1->nrefL (f i)=true){R:AV->List (Nat×AObj)->Prop}(h:R (.own 0 (n+1)) [(0,.row 97 5 (n+1) f false)]):wan C 142 [.view 5 (n+1) f] [] R:=by
 have _:C.Loose:=inferInstance;refine wa4.wpL (prg hP) [] [] 0 .nil (hP ▸ Tryz.func142) rfl rfl rfl [] (by kernel_rfl) trivial ?_;rw[w0i,wk9,Nat.zero_add];refine⟨⟨by omega,rfl,by omega⟩,⟨rfl,by omega,rfl,rfl,rfl,by omega,?_⟩,hf,wjk h⟩;show (n+1) * _<=_;refine Nat.le_trans (Nat.mul_le_mul_right _ hn) (by decide)
theorem wvy(hP:C.P=Tryz.prog):waf C 142 whj:=by
 rintro args objs U Os vc h hvc;unfold whj at h;split at h<;>simp only[sI7,pI7,reduceCtorEq] at h
 ·obtain⟨rfl,rfl,rfl⟩:=h;exact clRat0 hP _
 ·obtain⟨rfl,rfl,rfl⟩:=h;exact clRat1 hP _ _ hvc.1 hvc.2 ⟨rfl,rfl⟩
theorem nf_cpd0(F:FL)(R:oR7):wpFn te [(140,.det whk),(141,.det whi),(142,.det whj)] [] 1 Tryz.f96 [.agg [.str F.id,.q F.ver,.q F.day,.q F.kind,.view 15 F.ms.length (wag (atM F.ms)),.view 5 F.rs.length (wai (atR F.rs)),.view 5 0 (wah (atT []))]] [] R=((F.ms.length<=100000/\∀(i:Nat),i<F.ms.length->true=true)/\(F.rs.length<=100000/\∀(i:Nat),i<F.rs.length->true=true)/\True/\(True/\True)/\R (.agg [.str F.id,.q F.ver,.q F.day,.q F.kind,.view 15 F.ms.length (wag (atM F.ms)),.view 5 F.rs.length (wai (atR F.rs)),.view 5 0 (wah (atT []))]) []):=by kernel_rfl
theorem nf_cpd(F:FL)(t:RT)(l:List RT)(R:oR7):wpFn te [(140,.det whk),(141,.det whi),(142,.det whj)] [(3,L_kc F)] 0 Tryz.f96 [.agg [.str F.id,.q F.ver,.q F.day,.q F.kind,.view 15 F.ms.length (wag (atM F.ms)),.view 5 F.rs.length (wai (atR F.rs)),.view 5 (l.length+1) (wah (atT (t::l)))]] [] R=(letI z6:=wai (atR F.rs);letI z5:=F.rs.length;letI z4:=wag (atM F.ms);letI z3:=F.ms.length;letI z2:=l.length+1;letI z1:=([.str [],.q 0,.q 0,.q 0,.nil,.nil,.nil]:List AV);letI z0:=F.ts.length;(F.ms.length<=100000/\∀(i:Nat),i<F.ms.length->true=true)/\(F.rs.length<=100000/\∀(i:Nat),i<F.rs.length->true=true)/\(l.length+1<=100000/\∀(i:Nat),i<l.length+1->true=true)/\(∀(i:Nat),i<l.length+1->true=true)/\(TEq [(1,.ptr 0 0),(2,.ptr 1 0),(17,.own 2 z2),(18,.q (z2:Int)),(19,.q 0)] [(1,.ptr 0 0),(2,.ptr 1 0),(17,.own 2 z0),(18,.q (z0:Int)),(19,.q (↑0:Int))]/\wae [(0,.cells [.str F.id,.q F.ver,.q F.day,.q F.kind,.view 15 z3 z4,.view 5 z5 z6,.own 2 z2] 49),(1,.cells z1 49),(2,.row 97 5 z2 (wah (atT (t::l))) false)] [(0,.cells [.str F.id,.q F.ver,.q F.day,.q F.kind,.view 15 z3 z4,.view 5 z5 z6,.own 2 z0] 49),(1,.cells z1 49),(2,.row 97 5 z0 (wah (atT F.ts)) false)])/\F.ts.length<=1000/\(∀(t:RT),t∈F.ts->t.bs.length<=1000)/\(True/\True)/\(∀(i:Nat),i<F.ts.length->true=true)/\∃(O':oL7),wae [(0,.row 97 5 z0 (wah (atT F.ts)) false)] O'/\R (.agg [.str F.id,.q F.ver,.q F.day,.q F.kind,.view 15 z3 z4,.view 5 z5 z6,.own 0 z0]) O'):=by kernel_rfl
theorem wzr(F:FL)(k:Nat)(P:Nat->Prop)(R:eR7):wa0 ⟨te,[(109,.det wm6)],[],0,38,0⟩ (wa2 Tryz.f96 3) [1,2,17,18,19] [1,2] [] (S_kc F) P R (S_kc F k)=(letI z4:=([.str [],.q 0,.q 0,.q 0,.nil,.nil,.nil]:List AV);letI z2:=F.ts.length;letI z5:=((0:Int)<=(k:Int)/\(k:Int)<(z2:Int):Prop);letI z1:=(atT F.ts (k:Int).toNat);letI z0:=([.str F.id,.q F.ver,.q F.day,.q F.kind,.view 15 F.ms.length (wag (atM F.ms)),.view 5 F.rs.length (wai (atR F.rs)),.own 2 z2]:List AV);letI z3:=([(0,.cells z0 49),(1,.cells z4 49),(2,.row 97 5 z2 (wah (atT F.ts)) false)]:oL7);wad (decide ((k:Int)<(z2:Int))) (z5/\((k:Int).toNat<F.ts.length/\5=5)/\(z1.bs.length<=100000/\∀(i:Nat),i<z1.bs.length->true=true)/\z5/\(List.length [AV.view 2 z1.bs.length (wa1 (atB z1.bs))]=1/\(k:Int).toNat<F.ts.length/\5=5)/\inR .i64 ((k:Int)+1)/\∃(i':Nat),(TEq [(1,.ptr 0 0),(2,.ptr 1 0),(17,.own 2 z2),(18,.q (z2:Int)),(19,.q ((k:Int)+1))] [(1,.ptr 0 0),(2,.ptr 1 0),(17,.own 2 z2),(18,.q (z2:Int)),(19,.q (i':Int))]/\wae [(0,.cells z0 49),(1,.cells z4 49),(2,.row 97 5 z2 (λ(k_1:Nat)=>if k_1=Int.toNat (k:Int) then [.str z1.o,.str z1.p,.q z1.per,.q z1.st,.view 2 z1.bs.length (wa1 (atB z1.bs))] else wah (atT F.ts) k_1) false)] z3)/\P i') ((∀(i:Nat),i<F.ts.length->true=true)/\∃(O':oL7),wae z3 O'/\R (.exit 0) (St.mk [(1,.ptr 0 0),(2,.ptr 1 0)] O' 3 []))):=by kernel_rfl
theorem kc_loop(hP:C.P=Tryz.prog)(F:FL):waj C 0 38 (wam Tryz.f96 3) (L_kc F):=by
 rintro s Q ⟨h0,hn,hb,hQ⟩;refine waj.mk (prg hP) [(109,.det wm6)] 0 (.cons (w3e hP) .nil) [1,2,17,18,19] [1,2] [] (S_kc F) (λk=>k<=F.ts.length) (λk=>F.ts.length - k) 0 (zL7 _) h0 (λk hk=>?_) (λ_=>⟨λ_ _=>rfl,trivial⟩);rw[wzr,tN7];refine wak (λh1=>?_) (λh1=>?_)
 ·have hlt:k<F.ts.length:=by omega
  have hbk:(atT F.ts k).bs.length<=1000:=hb _ (by
   unfold atT;simp[List.getD,List.getElem?_eq_getElem hlt])
  refine⟨⟨by omega,by omega⟩,⟨hlt,rfl⟩,⟨by omega,λ_ _=>rfl⟩,⟨by omega,by omega⟩,⟨rfl,hlt,rfl⟩,by simp only[inR];omega,k+1,⟨rfl,?_⟩,by omega,by omega⟩;refine⟨rfl,rfl,⟨rfl,rfl,rfl,rfl,rfl,λi hi=>?_⟩,trivial⟩
  by_cases e:i=k
  ·subst e;exact if_pos rfl
  ·exact if_neg e
 ·exact⟨λ_ _=>rfl,_,wal _,hQ⟩
theorem cpd_at(hP:C.P=Tryz.prog)(F:FL)(hm:F.ms.length<=1000)(hr:F.rs.length<=1000)(ht:F.ts.length<=1000)(hb:∀t∈F.ts,t.bs.length<=1000):
  ADet C 96 [.agg [.str F.id,.q F.ver,.q F.day,.q F.kind,.view 15 F.ms.length (wag (atM F.ms)),.view 5 F.rs.length (wai (atR F.rs)),.view 5 F.ts.length (wah (atT F.ts))]] []
   (.agg [.str F.id,.q F.ver,.q F.day,.q F.kind,.view 15 F.ms.length (wag (atM F.ms)),.view 5 F.rs.length (wai (atR F.rs)),.view 5 F.ts.length (wah (atT F.ts))]) []:=by
 obtain⟨id,ver,day,kind,ms,rs,ts⟩:=F
 cases ts with
 |nil=>
  refine wa4.wpL (prg hP) [(140,.det whk),(141,.det whi),(142,.det whj)] [] 1 (.cons (wvz hP) (.cons (wvx hP) (.cons (wvy hP) .nil))) (hP ▸ Tryz.func96) rfl rfl rfl [] (by kernel_rfl) trivial ?_;refine(nf_cpd0 ⟨id,ver,day,kind,ms,rs,[]⟩ _).mpr ?_;exact⟨⟨by omega,λ_ _=>rfl⟩,⟨by omega,λ_ _=>rfl⟩,trivial,⟨trivial,trivial⟩,rfl,rfl⟩
 |cons t l=>
  refine wan.frzO 0 ?_
  refine wa4.wpL (prg hP) [(140,.det whk),(141,.det whi),(142,.det whj)] [(3,L_kc ⟨id,ver,day,kind,ms,rs,t::l⟩)] 0 (.cons (wvz hP) (.cons (wvx hP) (.cons (wvy hP) .nil))) (hP ▸ Tryz.func96) rfl rfl rfl
   [(wam Tryz.f96 3,L_kc ⟨id,ver,day,kind,ms,rs,t::l⟩)] (by kernel_rfl) ⟨kc_loop hP _,trivial⟩ ?_
  refine(nf_cpd ⟨id,ver,day,kind,ms,rs,t::l⟩ t l _).mpr ?_;have h3:l.length+1<=1000:=ht;refine⟨⟨by omega,λ_ _=>rfl⟩,⟨by omega,λ_ _=>rfl⟩,⟨by omega,λ_ _=>rfl⟩,λ_ _=>rfl,⟨rfl,wal _⟩,ht,hb,⟨trivial,trivial⟩,λ_ _=>rfl,_,wal _,λ_ _=>rfl,?_⟩;have hq:Nat.ble (l.length+1) (l.length+1)=true:=Nat.ble_eq_true_of_le (lR7 _)
  constructor
  ·simp[frzC,frzA,frz,hq]
  ·rfl
end Go.Eng
