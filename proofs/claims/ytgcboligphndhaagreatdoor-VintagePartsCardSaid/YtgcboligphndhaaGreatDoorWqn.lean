/- View of awake's file. -/
import Derived.Test.YtgcboligphndhaaGreatDoorWqm
import Derived.Lib.SliceRun
namespace Go.Eng
open Go.Proofs Go.RowKit
variable {C:Ctx} [C.Loose]
set_option maxRecDepth 20000
theorem nf_encA(fm ft:Nat->List AV)(R:oR7):wpFn te [(83,.rel wop),(84,.rel wox),(85,.det woj)] [] 2 Tryz.f33 [.agg [.str [97],.q 1,.q 10,.q 2,.view 15 0 fm,.view 5 1 (wae (atR [aR])),.view 5 0 ft]] [] R=(letI z11:=(3<=16777216/\1=1/\3<=9223372036854775807:Prop);letI z9:=(∀(i:Nat),i<3->true=true:Prop);letI z8:=(1<=16777216/\1=1/\1<=9223372036854775807:Prop);letI z7:=(atR [aR] (0:Int).toNat);letI z6:=TI.sz (tiO Tryz.prog false 9);letI z10:=(stOf (wap z6 (.str [(97:UInt8)]::List.append [] wd1)));letI z5:=(wap 1 (.q (↑0:Int)::List.append [] wb6));letI z4:=(wap 1 (.q (↑1:Int)::List.append [] wb6));letI z3:=(∀(i:Nat),i<1->true=true:Prop);letI z2:=(wap 1 (.q 1:: .q 2:: .q (↑0:Int)::List.append [] wb6));letI z1:=(wap z6 (.str [(111:UInt8)]:: .str [(57:UInt8),54,51,56,53,48,55,52]::List.append [] wd1));letI z0:=(wap 1 (.q z7.per:: .q z7.u:: .q z7.tv::List.append [] wb6));z8/\z3/\(111=111/\9=9/\1=1/\1=1)/\[AV.str [(97:UInt8)]]=[.str [(97:UInt8)]]/\(txF z10 1).length<=1099511627776/\∀(L':List UInt8),L'=txF z10 1->z3/\(∀(i:Nat),i<L'.length->true=true)/\z11/\z9/\(∀(i:Nat),i<L'.length->true=true)/\(111=111/\5=5/\2=2/\L'.length=L'.length/\3=3/\1<=3/\3<=4)/\∃(L:List UInt8),(L'.length=L.length/\strG L'=strG L)/\(∀(i:Nat),i<3->[AV.q (List.getD [(1:Int),(2:Int),(↑0:Int)] i (0:Int))]=[.q (vInt z2 i)])/\(∀(i:Nat),i<3->inR .i64 (vInt z2 i))/\(L++nuF (vInt z2) 3).length<=1099511627776/\∀(L':List UInt8),L'=L++nuF (vInt z2) 3->z9/\(∀(i:Nat),i<L'.length->true=true)/\z8/\z3/\(∀(i:Nat),i<L'.length->true=true)/\(111=111/\5=5/\2=2/\L'.length=L'.length/\1=1/\1<=1/\1<=4)/\∃(L:List UInt8),(L'.length=L.length/\strG L'=strG L)/\(∀(i:Nat),i<1->[AV.q (List.getD [(↑1:Int)] i (0:Int))]=[.q (vInt z4 i)])/\(∀(i:Nat),i<1->inR .i64 (vInt z4 i))/\(L++nuF (vInt z4) 1).length<=1099511627776/\∀(L':List UInt8),L'=L++nuF (vInt z4) 1->z3/\(∀(i:Nat),i<L'.length->true=true)/\((0:Int)<=0/\(0:Int)<(↑1:Int)/\5=5)/\(2<=16777216/\1=1/\2<=9223372036854775807)/\(∀(i:Nat),i<2->true=true)/\(∀(i:Nat),i<L'.length->true=true)/\(111=111/\5=5/\9=9/\L'.length=L'.length/\2=2/\1<=2/\2<=3)/\∃(L:List UInt8),(L'.length=L.length/\strG L'=strG L)/\(∀(i:Nat),i<2->[AV.str (List.getD [[(111:UInt8)],[(57:UInt8),54,51,56,53,48,55,52]] i [])]=[.str (stOf z1 i)])/\(L++txF (stOf z1) 2).length<=1099511627776/\∀(L':List UInt8),L'=L++txF (stOf z1) 2->(∀(i:Nat),i<2->true=true)/\(∀(i:Nat),i<L'.length->true=true)/\z11/\z9/\(∀(i:Nat),i<L'.length->true=true)/\(111=111/\5=5/\2=2/\L'.length=L'.length/\3=3/\1<=3/\3<=4)/\∃(L:List UInt8),(L'.length=L.length/\strG L'=strG L)/\(∀(i:Nat),i<3->[AV.q (List.getD [z7.per,z7.u,z7.tv] i (0:Int))]=[.q (vInt z0 i)])/\(∀(i:Nat),i<3->inR .i64 (vInt z0 i))/\(L++nuF (vInt z0) 3).length<=1099511627776/\∀(L':List UInt8),L'=L++nuF (vInt z0) 3->z9/\(∀(i:Nat),i<L'.length->true=true)/\inR .i64 ((0:Int)+1)/\z8/\z3/\(∀(i:Nat),i<L'.length->true=true)/\(111=111/\5=5/\2=2/\L'.length=L'.length/\1=1/\1<=1/\1<=4)/\∃(L:List UInt8),(L'.length=L.length/\strG L'=strG L)/\(∀(i:Nat),i<1->[AV.q (List.getD [(↑0:Int)] i (0:Int))]=[.q (vInt z5 i)])/\(∀(i:Nat),i<1->inR .i64 (vInt z5 i))/\(L++nuF (vInt z5) 1).length<=1099511627776/\∀(L':List UInt8),L'=L++nuF (vInt z5) 1->z3/\(∀(i:Nat),i<L'.length->true=true)/\(∀(i:Nat),i<L'.length->true=true)/\(111=111/\5=5/\L'.length=L'.length/\strG L'=strG (waq L'.length (strG L'))/\0<L'.length/\L'.length<=1099511627776)/\R (.str (waq L'.length (strG L'))) []):=by kernel_rfl
open Go.Lib in
theorem aI1(u:Nat)(h:u<10):itoa (u:Int)=[UInt8.ofNat (48+u)]:=by
 unfold itoa;rw[if_neg (by omega),tN7,decDigits,dif_pos h]
open Go.Lib in
theorem aI3:itoa (300:Int)=[51,48,48]:=by
 unfold itoa;rw[if_neg (by omega)];show decDigits 300=_;rw[decDigits,dif_neg (by omega),show 300 / 10=30 from rfl,decDigits,dif_neg (by omega),show 30 / 10=3 from rfl,decDigits,dif_pos (by omega)];rfl
theorem wj2{A B D:List UInt8}(h:B=D)(hl:(A++D).length<=1099511627776):(A++B).length<=1099511627776:=h ▸ hl
theorem apEq{A B D L:List UInt8}(hL:L=A++B)(h:B=D):L=A++D:=h ▸ hL
theorem apOne{B D:List UInt8}(h:B=D)(hl:D.length<=1099511627776):B.length<=1099511627776:=h ▸ hl
theorem wyo(hP:C.P=Tryz.prog)(hL:∀w,C.laid w->LaidW w):wah C 33 wh8:=by
 rintro args objs U Os vc h hvc;unfold wh8 at h;split at h<;>cases h;rename_i fm fr ft;subst hvc;refine wah.wpL (prg hP) [(83,.rel wop),(84,.rel wox),(85,.det woj)] [] 2 (.cons (wz8 hP hL) (.cons (w17 hP hL) (.cons (bstr_ok hP) .nil))) (hP ▸ Tryz.func33) rfl rfl rfl [] (by kernel_rfl) trivial ?_;rw[nf_encA];have i0:=aI1 0 (by omega);have i1:=aI1 1 (by omega);have i2:=aI1 2 (by omega);have i5:=aI1 5 (by omega);have i8:=aI1 8 (by omega);have t1:([]++(Go.Lib.itoa ((1:Nat):Int)++58::([97]++[44])))=([49,58,97,44]:List UInt8):=by rw[i1];rfl
 have n1:(([]++(Go.Lib.itoa ((1:Nat):Int)++[44]))++(Go.Lib.itoa ((2:Nat):Int)++[44]))++(Go.Lib.itoa ((0:Nat):Int)++[44])=([49,44,50,44,48,44]:List UInt8):=by rw[i1,i2,i0];rfl
 have n2:([]++(Go.Lib.itoa ((1:Nat):Int)++[44]))=([49,44]:List UInt8):=by rw[i1];rfl
 have t2:([]++(Go.Lib.itoa ((1:Nat):Int)++58::([111]++[44])))++(Go.Lib.itoa ((8:Nat):Int)++58::([57,54,51,56,53,48,55,52]++[44]))=([49,58,111,44,56,58,57,54,51,56,53,48,55,52,44]:List UInt8):=by rw[i1,i8];rfl
 have n3:(([]++(Go.Lib.itoa ((5:Nat):Int)++[44]))++(Go.Lib.itoa ((2:Nat):Int)++[44]))++(Go.Lib.itoa (300:Int)++[44])=([53,44,50,44,51,48,48,44]:List UInt8):=by rw[i5,i2,aI3];rfl
 have n4:([]++(Go.Lib.itoa ((0:Nat):Int)++[44]))=([48,44]:List UInt8):=by rw[i0];rfl
 refine⟨⟨by omega,rfl,by omega⟩,λ_ _=>rfl,⟨rfl,rfl,rfl,rfl⟩,rfl,apOne t1 (by decide),λL1 h1=>?_⟩;have h1:L1=_:=h1.trans t1;subst h1;refine⟨λ_ _=>rfl,λ_ _=>rfl,⟨by omega,rfl,by omega⟩,λ_ _=>rfl,λ_ _=>rfl,⟨rfl,rfl,rfl,rfl,rfl,by omega,by omega⟩,_,⟨rfl,rfl⟩,up3 rfl rfl rfl,up3 (cntR (n:=1) (by omega)) (cntR (n:=2) (by omega)) (cntR (n:=0) (by omega)),wj2 n1 (by decide),λL2 h2=>?_⟩;have h2:L2=_:=apEq h2 n1;subst h2;refine⟨λ_ _=>rfl,λ_ _=>rfl,⟨by omega,rfl,by omega⟩,λ_ _=>rfl,λ_ _=>rfl,⟨rfl,rfl,rfl,rfl,rfl,by omega,by omega⟩,_,⟨rfl,rfl⟩,up1 rfl,up1 (cntR (n:=1) (by omega)),wj2 n2 (by decide),λL3 h3=>?_⟩;have h3:L3=_:=apEq h3 n2;subst h3;refine⟨λ_ _=>rfl,λ_ _=>rfl,⟨by omega,by omega,rfl⟩,⟨by omega,rfl,by omega⟩,λ_ _=>rfl,λ_ _=>rfl,⟨rfl,rfl,rfl,rfl,rfl,by omega,by omega⟩,_,⟨rfl,rfl⟩,up2 rfl rfl,wj2 t2 (by decide),λL4 h4=>?_⟩;have h4:L4=_:=apEq h4 t2;subst h4;refine⟨λ_ _=>rfl,λ_ _=>rfl,⟨by omega,rfl,by omega⟩,λ_ _=>rfl,λ_ _=>rfl,⟨rfl,rfl,rfl,rfl,rfl,by omega,by omega⟩,_,⟨rfl,rfl⟩,up3 rfl rfl rfl,up3 (cntR (n:=5) (by omega)) (cntR (n:=2) (by omega)) (cntR (n:=300) (by omega)),wj2 n3 (by decide),λL5 h5=>?_⟩;have h5:L5=_:=apEq h5 n3;subst h5;refine⟨λ_ _=>rfl,λ_ _=>rfl,by simp only[inR];omega,⟨by omega,rfl,by omega⟩,λ_ _=>rfl,λ_ _=>rfl,⟨rfl,rfl,rfl,rfl,rfl,by omega,by omega⟩,_,⟨rfl,rfl⟩,up1 rfl,up1 (cntR (n:=0) (by omega)),wj2 n4 (by decide),λL6 h6=>?_⟩;have h6:L6=_:=apEq h6 n4;subst h6;refine⟨λ_ _=>rfl,λ_ _=>rfl,λ_ _=>rfl,⟨rfl,rfl,rfl,by rw[wdp],by decide,by decide⟩,?_⟩;rw[wdp];exact⟨rfl,rfl⟩
end Go.Eng
namespace Go.Eng
def entT(K:List (List UInt8))(F:List UInt8->FL):List (AV×AV):=K.map λt=>(.str t,.agg (wc8 (F t)))
theorem ww5(a b:List UInt8):keq (.str a) (.str b)=decide (a=b):=by
 rfl
theorem wwg(F:List UInt8->FL)(x:List UInt8):∀K,mget (entT K F) (.str x)=if x∈K then some (.agg (wc8 (F x))) else none
 |[]=>rfl
 |t::K=>by
  show (match keq (.str t) (.str x) with | true=>some (AV.agg (wc8 (F t))) | false=>mget (entT K F) (.str x))=_
  rw[ww5,wwg F x K]
  by_cases h:t=x
  .subst h;simp
  .have h':¬ x=t:=λe=>h e.symm;simp[h,h']
theorem wsy{K:List (List UInt8)}{F:List UInt8->FL}(h:K.Nodup):wb9 .string (entT K F):=by
 refine⟨List.all_eq_true.2 λp hp=>?_,?_⟩
 .obtain⟨r,_,rfl⟩:=List.mem_map.1 hp;rfl
 .unfold entT;rw[List.map_map];refine List.pairwise_map.2 (h.imp λ{a b} hab he=>hab ?_);have he:AV.str a=AV.str b:=he;injection he
theorem gotT(F:List UInt8->FL)(K:List (List UInt8))(x:List UInt8):gotN (entT K F) x=if x∈K then .agg (wc8 (F x)) else zeroFA:=by
 unfold gotN;rw[wwg]
 by_cases h:x∈K<;>simp[h]
theorem w69(F:List UInt8->FL)(K:List (List UInt8))(x:List UInt8):wcr wqf (gotN (entT K F) x)=gotN (entT K F) x:=by
 rw[gotT]
 by_cases h:x∈K
 .rw[if_pos h];rfl
 .rw[if_neg h];rfl
theorem w8b(es:List (AV×AV)):PreC (cmpN es):=(wc9.comap λx=>wbh (was (gotN es x) 0)).or ((wdo.comap λx=>wao (was (gotN es x) 1)).or ((wdo.comap λx=>wao (was (gotN es x) 2)).or (wc9.or .nil)))
end Go.Eng
namespace Go.Eng
open Go.Proofs Go.RowKit Go.Sort
section
variable {β:Type}
def ElV(w:World)(M:Nat->Prop)(enc:β->List AV)(k:Nat):Type:=
 { p:List Value×β // p.1.length=k/\(∀v∈p.1,v.oneCell'=true)/\∀(j:Nat) v u,p.1[j]?=some v->(enc p.2)[j]?=some u->V w M nob v u }
theorem wal.sortV{C:Ctx}(enc:β->List AV)(k:Nat)(hk:∀x,(enc x).length=k)(hp:∀x,nrefL (enc x)=true)(cf:β->β->Int){fS g:FuncId}{t:TypeId}(heS:wg2 C.P fS)
  (hS:∀(α:Type) [Inhabited α] (ev:α->List Value) (pr:α->β),(∀x,(ev x).length=k)->(∀x,∀v∈ev x,v.oneCell'=true)->∀(blk cap:Nat) (d:Array α) (w:World),CmpLays C.P g #[] ev k (λa b=>cf (pr a) (pr b)) blk 0 d.size w->
   HoldsK ev k w blk 0 d->blk<w.heap.size->d.size<4611686018427387904->
   Calls C.P fS #[.slice (some ⟨blk,0,none⟩) d.size cap,.func (.func g) #[] #[]] w λe w'=>e= .returned (.tuple #[])/\∃d' n os,PermIn 0 d.size d d'/\SortedIn (ltOf λa b=>cf (pr a) (pr b)) 0 d.size d'/\w'=sortWorldK ev k w blk 0 n d' os)
  (hN:∀(p:Option Addr) (cap:Nat) (fv:Value) (w:World),Calls C.P fS #[.slice p 0 cap,fv] w λe w'=>e= .returned (.tuple #[])/\w'=w)
  (hc:∀x y,ADet (Ctx.bare C.P C.mixed) g [.agg (enc x),.agg (enc y)] [] (.int .i64 (cf x y)) [])
  {n:Nat} (f:Nat->β) (hn:n<4611686018427387904):
  wal C fS [.own 0 n,.func g []] [.row t k n (λi=>enc (f i)) false] λu O=>u= .tuple []/\∃f':Nat->β,((List.range n).map f').Perm ((List.range n).map f)/\(∀i j,i<j->j<n->¬ cf (f' j) (f' i)<0)/\
   O=[(0,.row t k n (λi=>enc (f' i)) false)]:=by
 refine⟨heS,λE bs w cargs h1 h2 h3 hW h5 h6 h7=>?_⟩;obtain⟨a,b,rfl⟩:∃a b,cargs=[a,b]:=by
  match cargs,h6 with
  |[a,b],_=>exact⟨a,b,rfl⟩
 have V0:=h7 0 _ _ rfl rfl;have V1:=h7 1 _ _ rfl rfl;generalize hu:AV.func g []=uf at V1
 cases V1<;>cases hu;rename_i caps hl hv;obtain rfl:caps=#[]:=Array.eq_empty_of_size_eq_zero hl;have hO:lkL [AObj.row t k n (λi=>enc (f i)) false]=lk [(0,.row t k n (λi=>enc (f i)) false)]:=by
  funext i
  cases i with
  |zero=>rfl
  |succ i=>rw[wax,if_neg (by show ¬ 0=i+1;omega)];simp[lkL,lk]
 have hbs:∀r,1+16<=r->lk [(0,AObj.row t k n (λi=>enc (f i)) false)] r=none/\bs r=none:=λr hr=>⟨by rw[wax,if_neg (by show ¬ 0=r;omega)];rfl,h5 r (by show 1<=r;omega)⟩;rw[hO] at hW V0;have none0:n=0->∀A c,Calls C.P fS #[.slice A 0 c,.func (.func g) #[] #[]] w λe w'=>∃v u O' bs',e= .returned v/\(u= .tuple []/\∃f':Nat->β,((List.range n).map f').Perm ((List.range n).map f)/\(∀i j,i<j->j<n->¬ cf (f' j) (f' i)<0)/\
   O'=[(0,.row t k n (λi=>enc (f' i)) false)])/\WRep C E (lk O') bs' w'/\V w' (MB E (lk O') bs') bs' v u/\∀r,1+16<=r->lk O' r=none/\bs' r=none:=λhn0 A c=>by
  refine(hN A c _ w).mono ?_;rintro e w' ⟨rfl,rfl⟩;exact⟨_,.tuple [],[(0,.row t k n (λi=>enc (f i)) false)],bs,rfl,⟨rfl,f,.refl _,λi j _ hj=>by omega,rfl⟩,hW,.tuple rfl (λj v u hv hu=>by simp at hu),hbs⟩
 generalize huo:AV.own 0 n=uo at V0
 cases V0<;>cases huo
 case func.refl.ownnil.refl A x1 x2=>exact none0 (by assumption) _ _
 case func.refl.own.refl bk c x1 x2 x3=>
  have hb:bs 0=some (.blk bk c):=by assumption
  clear x1 x2 x3
  rcases Nat.eq_zero_or_pos n with hn0 | hn0
  .have:=none0 hn0 (some ⟨bk,0,none⟩) c;subst hn0;exact this
  have hrow:=hW.obj 0 _ rfl
  rcases hrow with⟨h,_⟩ | ⟨bk',c',vs,hb',hh,hnc',hcm',hsz,hln,hone,hval⟩
  .rw[h] at hb;cases hb
  obtain⟨rfl,rfl⟩:bk'=bk/\c'=c:=by
   rw[hb'] at hb;injection hb with hb;injection hb with e1 e2;exact⟨e1,e2⟩
  generalize hM:MB E (lk [(0,AObj.row t k n (λi=>enc (f i)) false)]) bs=M at *;have hMb:M bk':=by rw[← hM];exact .inr ⟨0,_,c',rfl,rfl,hb'⟩
  have hblk:bk'<w.heap.size:=hW.lt _ _ _ hb';have hle:n * k<=vs.size:=by rw[hsz];exact Nat.mul_le_mul_right k hnc'
  have hdiv:∀q,q<n * k->q / k<n/\q % k<k/\q / k * k+q % k=q:=λq hq=>by
   have k0:0<k:=by
    rcases Nat.eq_zero_or_pos k with h | h
    .subst h;simp at hq
    .exact h
   exact⟨Nat.div_lt_of_lt_mul (by rwa [Nat.mul_comm]),Nat.mod_lt _ k0,Nat.div_add_mod' q k⟩
  have hin:∀i j,i<n->j<k->i * k+j<n * k:=λi j hi hj=>by
   have:=Nat.mul_le_mul_right k (show i+1<=n from hi);rw[Nat.add_mul,Nat.one_mul] at this;omega
  -- the elements as they lie
  have vget:∀i,i<n->∀(j:Nat) v,((List.range k).map λj=>vs.getD (i * k+j) undef)[j]?=some v->j<k/\vs[i * k+j]?=some v:=λi hi j v hv=>by
   rw[List.getElem?_map] at hv
   rcases Nat.lt_or_ge j k with hj | hj
   .rw[List.getElem?_range hj,Option.map_some,sI7] at hv;have:=hin i j hi hj;refine⟨hj,?_⟩;rw[← hv,Array.getElem?_eq_getElem (by omega)];simp[Array.getD,show i * k+j<vs.size by omega]
   .rw[List.getElem?_eq_none (by simpa using hj)] at hv;cases hv
  let mk:∀i,i<n->ElV w M enc k:=λi hi=>⟨((List.range k).map (λj=>vs.getD (i * k+j) undef),f i),by simp,λv hv=>by
    obtain⟨j,hj⟩:=List.getElem?_of_mem hv;obtain⟨a1,a2⟩:=vget i hi j v hj;exact hone i hi j a1 v a2,λj v u hv hu=>by
    obtain⟨a1,a2⟩:=vget i hi j v hv;exact(hval i hi j v u a1 a2 hu).free (λ_ _ h=>h) (λ_ _ _=>rfl) (lR7 _) nob (wgi (hp _) j u hu)⟩
  let e0:=mk 0 hn0
  letI:Inhabited (ElV w M enc k):=⟨e0⟩
  let el:Nat->ElV w M enc k:=λi=>if h:i<n then mk i h else e0
  have hel:∀i (h:i<n),el i=mk i h:=λi h=>dif_pos h
  let ev:ElV w M enc k->List Value:=λx=>x.1.1
  let pr:ElV w M enc k->β:=λx=>x.1.2
  have hlen:∀x,(ev x).length=k:=λx=>x.2.1;have hds:(((List.range n).map el).toArray).size=n:=by simp
  have hH:HoldsK ev k w bk' 0 ((List.range n).map el).toArray:=by
   intro q hq;rw[size_flatK,hds] at hq;obtain⟨q1,q2,q3⟩:=hdiv q hq;rw[get_flatK _ _ _ _ (by rw[hds];exact hq),wtf n el q1,Nat.zero_add,hel _ q1];have hlt:q<vs.size:=by omega
   refine⟨?_,?_⟩
   .rw[cell_of_row w bk' q vs t (0,0) hh];show vs[q]?=some (((List.range k).map λj=>vs.getD (q / k * k+j) undef)[q % k]!);rw[getElem!_pos _ _ (by simpa using q2),List.getElem_map,List.getElem_range,q3,Array.getElem?_eq_getElem hlt];simp[Array.getD,hlt]
   .simp[World.frozen?,hh]
  have hheap:∀(m:Nat) (dk:Array (ElV w M enc k)) (os:Array Obj) (b:Nat),b<w.heap.size->b≠bk'->(sortWorldK ev k w bk' 0 m dk os).heap[b]?=w.heap[b]?:=λm dk os b hb hne=>by
   show ((putRowK ev k (Sort.ahead w m) bk' 0 dk).heap++os)[b]?=_;rw[Array.getElem?_append_left (by show b<(putRowK _ _ _ _ _ _).heap.size;rw[show (putRowK ev k (Sort.ahead w m) bk' 0 dk).heap.size=w.heap.size from by simp[putRowK]];exact hb)];simp[putRowK,putRow,mapBlock,Array.getElem?_modify,Ne.symm hne]
  have hsize:∀(m:Nat) (dk:Array (ElV w M enc k)) (os:Array Obj),w.heap.size<=(sortWorldK ev k w bk' 0 m dk os).heap.size:=λm dk os=>by simp[sortWorldK,grow,putRowK]
  have hC:CmpLays C.P g #[] ev k (λa b=>cf (pr a) (pr b)) bk' 0 ((List.range n).map el).toArray.size w:=by
   intro m os dk _ x y;have:=ADet.grown (hc (pr x) (pr y)) rfl (w:=sortWorldK ev k w bk' 0 m dk os) (cargs:=[.agg (ev x).toArray,.agg (ev y).toArray]) rfl (λj v u hv hu=>?_)
   .simpa[valA] using this
   have ag:∀z:ElV w M enc k,V (sortWorldK ev k w bk' 0 m dk os) (λ_=>False) nob (.agg (ev z).toArray) (.agg (enc (pr z))):=λz=>by
    refine .agg (by simp[hlen,hk]) (λj v hv=>?_) (λj v u hv hu=>?_)
    .exact z.2.2.1 _ (List.mem_of_getElem? (by simpa using hv))
    .exact(z.2.2.2 j v u (by simpa using hv) hu).step_ (λ_ _ _ h=>h) (λb hb hm=>hheap m dk os b hb (λe=>hm (e ▸ hMb))) (hsize m dk os) nob (λ_ _ h=>h)
   match j with
   |0=>obtain rfl:=oJ7 hv;obtain rfl:=oJ7 hu;exact ag x
   |1=>obtain rfl:=oJ7 hv;obtain rfl:=oJ7 hu;exact ag y
   |j+2=>simp at hv
  have hcall:=hS (ElV w M enc k) ev pr hlen (λx=>x.2.2.1) bk' c' ((List.range n).map el).toArray w hC hH hblk (by rw[hds];exact hn);rw[hds] at hcall;refine hcall.mono ?_;rintro e w' ⟨rfl,d',m,os,hperm,hsort,rfl⟩;have hd':d'.size=n:=hperm.1.trans hds;have hlist:d'.toList=(List.range n).map (λi=>d'[i]!):=by
   apply List.ext_getElem?;intro i;rw[List.getElem?_map,Array.getElem?_toList]
   by_cases hi:i<n
   .rw[List.getElem?_range hi,Option.map_some,getElem!_pos d' i (by omega),Array.getElem?_eq_getElem (by omega)]
   .rw[Array.getElem?_eq_none (by omega),List.getElem?_eq_none (by simp;omega)];rfl
  have hnew:(sortWorldK ev k w bk' 0 m d' os).heap[bk']?=some (.cells (putCells id 0 (flatK ev k d') vs) t (0,0)):=by
   show ((putRowK ev k (Sort.ahead w m) bk' 0 d').heap++os)[bk']?=_;rw[Array.getElem?_append_left (by rw[show (putRowK ev k (Sort.ahead w m) bk' 0 d').heap.size=w.heap.size from by simp[putRowK]];exact hblk)];simp[putRowK,putRow,mapBlock,Array.getElem?_modify,hh,onCells]
  have hcell:∀i,i<n->∀j,j<k->∀v,(putCells id 0 (flatK ev k d') vs)[i * k+j]?=some v->(ev d'[i]!)[j]?=some v:=λi hi j hj v hv=>by
   have hlt:=hin i j hi hj;have hlt2:i * k+j<vs.size:=by omega
   simp only[putCells,Array.getElem?_mapIdx,Array.getElem?_eq_getElem hlt2,Option.map_some,size_flatK,hd',zL7,Nat.zero_add,hlt,and_self,if_true,Nat.sub_zero,sI7,id] at hv;rw[get_flatK _ _ _ _ (by rw[hd'];exact hlt)] at hv;have e1:(i * k+j) / k=i:=(blk_iff k i _ (by omega)).1 ⟨by omega,by omega⟩;have e2:(i * k+j) % k=j:=by rw[Nat.mod_eq_sub_div_mul,e1];omega
   rw[e1,e2] at hv;rw[← hv,getElem!_pos (ev d'[i]!) j (by rw[hlen];exact hj)];exact List.getElem?_eq_getElem _
  refine⟨_,.tuple [],[(0,.row t k n (λi=>enc (pr d'[i]!)) false)],bs,rfl,⟨rfl,λi=>pr d'[i]!,?_,λi j hij hj=>?_,rfl⟩,?_,.tuple rfl (λj v u hv hu=>by simp at hu),λr hr=>⟨by rw[wax,if_neg (by show ¬ 0=r;exact λh=>by subst h;simp at hr)];rfl,(hbs r hr).2⟩⟩
  .have:=hperm.2.2;have e1:d'.extract 0 n=d':=by rw[← hd'];exact Array.extract_size
   have e2:((List.range n).map el).toArray.extract 0 n=((List.range n).map el).toArray:=by
    have:=Array.extract_size (xs:=((List.range n).map el).toArray)
    rwa [hds] at this
   rw[e1,e2] at this;have this:d'.toList.Perm ((List.range n).map el):=by simpa using this
   have this:=this.map pr;rw[hlist,List.map_map,List.map_map] at this;have e3:(List.range n).map (pr ∘ el)=(List.range n).map f:=List.map_congr_left λi hi=>by
    show pr (el i)=f i;rw[hel i (List.mem_range.1 hi)]
   rw[e3] at this;exact this
  .have:=hsort i j (zL7 _) hij hj;simpa[ltOf] using this
  .have hmb:∀b,mutB (lk [(0,AObj.row t k n (λi=>enc (pr d'[i]!)) false)]) bs b->mutB (lk [(0,AObj.row t k n (λi=>enc (f i)) false)]) bs b:=by
    rintro b ⟨r,o,c2,ho,hm,hb2⟩;rw[wax] at ho
    by_cases h:(0:Nat)=r
    .subst h;exact⟨0,_,c2,rfl,rfl,hb2⟩
    .rw[if_neg h] at ho;cases ho
   refine(hW.next (w':=sortWorldK ev k w bk' 0 m d' os) (λb=>b=bk') (λi h hi=>hi) (λi b c' hi=>.inl hi) (λb hb2=>by subst hb2;exact⟨0,_,c',rfl,rfl,hb'⟩) (λb hb2 hne=>hheap m d' os b hb2 hne) (hsize m d' os) (λb hb2=>.inl (hmb b hb2)) (λhSt i o' ho=>?_)
    (λi j o1 o2 b c1 c2 hi hj m1 m2 bi bj=>?_) (λi t' sz' n' f' b c2 ho hb2=>?_) rfl ⟨rfl,λ_=>Nat.le_add_right _ _⟩ rfl).2
   .rw[wax] at ho
    by_cases h:(0:Nat)=i
    .subst h;rw[if_pos rfl] at ho;injection ho with ho;subst ho;refine .inr (.inr ⟨bk',c',_,hb',hnew,hnc',hcm',by simp[putCells,hsz],λi hi=>hk _,λi hi j hj v hv=>?_,λi hi j v u hj hv hu=>?_⟩)
     .exact d'[i]!.2.2.1 _ (List.mem_of_getElem? (hcell i hi j hj v hv))
     .have q:=d'[i]!.2.2.2 j v u (hcell i hi j hj v hv) hu;rw[← hM] at q;exact(q.step_ hSt.far hSt.heap hSt.size nob (λ_ _ h=>h)).lift
    .rw[if_neg h] at ho;cases ho
   .rw[wax] at hi hj
    by_cases h:(0:Nat)=i
    .by_cases h':(0:Nat)=j
     .rw[← h, ← h']
     .rw[if_neg h'] at hj;cases hj
    .rw[if_neg h] at hi;cases hi
   .rw[wax] at ho
    by_cases h:(0:Nat)=i
    .rw[if_pos h] at ho;cases ho
    .rw[if_neg h] at ho;cases ho
end
def entF(es:List (AV×AV))(i:Nat):List AV:=[(es.getD i (.any,.any)).1,(es.getD i (.any,.any)).2]
theorem entsV_F(es:List (AV×AV)):wdy es.length (entF es)=es:=by
 apply List.ext_getElem?;intro i;unfold wdy;rw[List.getElem?_map]
 rcases Nat.lt_or_ge i es.length with h | h
 .rw[List.getElem?_range h,Option.map_some,List.getElem?_eq_getElem h];simp[entF,h]
 .rw[List.getElem?_eq_none (by simpa using h),List.getElem?_eq_none h];rfl
def strV(x:List UInt8):Value:=.string ⟨x.toArray⟩
theorem wal.sortM {C : Ctx} (cf : List UInt8 → List UInt8 → Int) {fS g : FuncId} {t ct : TypeId} (heS : wg2 C.P fS)
    (hS : ∀ (cb : Array Value) (blk cap : Nat) (d : Array (List UInt8)) (w : World), CmpLays1 C.P g cb strV cf blk 0 d.size w → Sort.Holds strV w blk 0 d → blk < w.heap.size → d.size < 4611686018427387904 →
      Calls C.P fS #[.slice (some ⟨blk, 0, none⟩) d.size cap, .func (.func g) #[] cb] w fun e w' => e = .returned (.tuple #[]) ∧ ∃ d' n os, PermIn 0 d.size d d' ∧ SortedIn (ltOf cf) 0 d.size d' ∧ w' = sortWorld strV w blk 0 n d' os)
    (hN : ∀ (p : Option Addr) (cap : Nat) (fv : Value) (w : World), Calls C.P fS #[.slice p 0 cap, fv] w fun e w' => e = .returned (.tuple #[]) ∧ w' = w)
    (es : List (AV × AV)) (hes : ∀ p ∈ es, nref p.1 = true ∧ nref p.2 = true)
    (hc : ∀ x y, ADet (Ctx.bare C.P C.mixed) g [.str x, .str y, .vptr [.vmap es.length (entF es)]] [] (.int .i64 (cf x y)) [])
    {n : Nat} (f : Nat → List UInt8) (hn : n < 4611686018427387904) :
    wal C fS [.own 0 n, .func g [.ptr 1 0]] [.row t 1 n (fun i => [.str (f i)]) false, .cells [.map 2] ct, .amap es] fun u O => u = .tuple [] ∧ ∃ f' : Nat → List UInt8, ((List.range n).map f').Perm ((List.range n).map f) ∧ (∀ i j, i < j → j < n → ¬ cf (f' j) (f' i) < 0) ∧
      O = [(0, .row t 1 n (fun i => [.str (f' i)]) false), (1, .cells [.map 2] ct), (2, .amap es)] := by
  refine ⟨heS, fun E bs w cargs h1 h2 h3 hW h5 h6 h7 => ?_⟩
  obtain ⟨a, b, rfl⟩ : ∃ a b, cargs = [a, b] := by
    match cargs, h6 with
    | [a, b], _ => exact ⟨a, b, rfl⟩
  have hO : ∀ F : Nat → List UInt8, lkL [AObj.row t 1 n (fun i => [.str (F i)]) false, .cells [.map 2] ct, .amap es] = lk [(0, .row t 1 n (fun i => [.str (F i)]) false), (1, .cells [.map 2] ct), (2, .amap es)] := fun F => by
    funext i
    match i with
    | 0 => rfl
    | 1 => rfl
    | 2 => rfl
    | i + 3 =>
      rw [wax, if_neg (by show ¬ 0 = i + 3; omega), wax, if_neg (by show ¬ 1 = i + 3; omega), wax, if_neg (by show ¬ 2 = i + 3; omega)]
      simp [lkL, lk]
  have V0 := h7 0 _ _ rfl rfl
  have V1 := h7 1 _ _ rfl rfl
  rw [hO] at hW V0 V1
  have hbs : ∀ (F : Nat → List UInt8) r, 3 + 16 ≤ r → lk [(0, AObj.row t 1 n (fun i => [.str (F i)]) false), (1, .cells [.map 2] ct), (2, .amap es)] r = none ∧ bs r = none := fun F r hr =>
    ⟨by rw [wax, if_neg (by show ¬ 0 = r; omega), wax, if_neg (by show ¬ 1 = r; omega), wax, if_neg (by show ¬ 2 = r; omega)]; rfl, h5 r (by show 3 ≤ r; omega)⟩
  -- the cell and the map
  obtain ⟨b1, c1, cs1, k1, k2, k3, k4, k5⟩ := hW.obj 1 _ rfl
  obtain ⟨b2, c2, ents, clock, m1, m2, m3, m4⟩ := hW.obj 2 _ rfl
  obtain ⟨mv, rfl⟩ : ∃ mv, cs1 = #[mv] := by
    have k3 : cs1.size = 1 := k3
    exact ⟨cs1[0], by apply Array.ext; · simpa using k3
                      · intro i hi1 hi2; have : i = 0 := by omega
                        subst this; rfl⟩
  have hmv : mv = .map (some b2) := by
    have q := k5 0 mv (.map 2) rfl rfl
    cases q with
    | map hb2 =>
      rw [m1] at hb2
      injection hb2 with hb2
      injection hb2 with e1 e2
      rw [e1]
  subst hmv
  generalize hu : AV.func g [.ptr 1 0] = uf at V1
  cases V1 <;> cases hu
  rename_i caps hl hv
  obtain ⟨pv, rfl⟩ : ∃ pv, caps = #[pv] := by
    have hl : caps.size = 1 := hl
    exact ⟨caps[0], by apply Array.ext; · simpa using hl
                       · intro i hi1 hi2; have : i = 0 := by omega
                         subst this; rfl⟩
  have hpv : pv = .pointer (some ⟨b1, 0, none⟩) := by
    have q := hv 0 pv (.ptr 1 0) rfl rfl
    cases q with
    | ptr hb1 =>
      rw [k1] at hb1
      injection hb1 with hb1
      injection hb1 with e1 e2
      rw [e1]
  subst hpv
  generalize hM : MB E (lk [(0, AObj.row t 1 n (fun i => [.str (f i)]) false), (1, .cells [.map 2] ct), (2, .amap es)]) bs = M at *
  generalize huo : AV.own 0 n = uo at V0
  cases V0 <;> cases huo
  case func.refl.ownnil.refl A x1 x2 =>
    have hn0 : n = 0 := by assumption
    clear x1 x2
    subst hn0
    refine (hN A 0 _ w).mono ?_
    rintro e w' ⟨rfl, rfl⟩
    exact ⟨_, .tuple [], [(0, .row t 1 0 (fun i => [.str (f i)]) false), (1, .cells [.map 2] ct), (2, .amap es)], bs, rfl, ⟨rfl, f, .refl _, fun i j _ hj => absurd hj (nZ7 j), rfl⟩, hW, .tuple rfl (fun j v u hv hu => by simp at hu), hbs f⟩
  case func.refl.own.refl bk c x1 x2 x3 =>
    have hb : bs 0 = some (.blk bk c) := by assumption
    clear x1 x2 x3
    have hrow := hW.obj 0 _ rfl
    rcases hrow with ⟨h, _⟩ | ⟨bk', c', vs, hb', hh, hnc', hcm', hsz, hln, hone, hval⟩
    · rw [h] at hb; cases hb
    obtain ⟨rfl, rfl⟩ : bk' = bk ∧ c' = c := by
      rw [hb'] at hb; injection hb with hb; injection hb with e1 e2; exact ⟨e1, e2⟩
    have n1 : b1 ≠ bk' := fun e => by subst e; exact absurd (hW.sep 1 0 _ _ _ _ _ rfl rfl rfl rfl k1 hb') (by decide)
    have n2 : b2 ≠ bk' := fun e => by subst e; exact absurd (hW.sep 2 0 _ _ _ _ _ rfl rfl rfl rfl m1 hb') (by decide)
    have hblk : bk' < w.heap.size := hW.lt _ _ _ hb'
    have hds : (((List.range n).map f).toArray).size = n := by simp
    have vsz : vs.size = c' := by rw [hsz, Nat.mul_one]
    have vstr : ∀ i (hi : i < n), vs[i]? = some (strV (f i)) := fun i hi => by
      have hlt : i < vs.size := by omega
      have := hval i hi 0 vs[i] (.str (f i)) (by omega) (by rw [Nat.mul_one]; exact Array.getElem?_eq_getElem hlt) rfl
      rw [Array.getElem?_eq_getElem hlt, this.str_iff]; rfl
    have hH : Sort.Holds strV w bk' 0 ((List.range n).map f).toArray := by
      intro q hq
      rw [hds] at hq
      rw [wtf n f hq, Nat.zero_add]
      refine ⟨?_, ?_⟩
      · rw [cell_of_row w bk' q vs t (0, 0) hh]; exact vstr q hq
      · simp [World.frozen?, hh]
    have hheap : ∀ (m : Nat) (dk : Array (List UInt8)) (os : Array Obj) (b : Nat), b < w.heap.size → b ≠ bk' → (sortWorld strV w bk' 0 m dk os).heap[b]? = w.heap[b]? := fun m dk os b hb hne => by
      show ((putRow strV (Sort.ahead w m) bk' 0 dk).heap ++ os)[b]? = _
      rw [Array.getElem?_append_left (by show b < (putRow _ _ _ _ _).heap.size; rw [show (putRow strV (Sort.ahead w m) bk' 0 dk).heap.size = w.heap.size from by simp [putRow, mapBlock]]; exact hb)]
      simp [putRow, mapBlock, Array.getElem?_modify, Ne.symm hne]
    have hsize : ∀ (m : Nat) (dk : Array (List UInt8)) (os : Array Obj), w.heap.size ≤ (sortWorld strV w bk' 0 m dk os).heap.size := fun m dk os => by simp [sortWorld, grow, putRow, mapBlock]
    have hC : CmpLays1 C.P g #[.pointer (some ⟨b1, 0, none⟩)] strV cf bk' 0 ((List.range n).map f).toArray.size w := by
      intro m os dk _ x y
      have lt1 := hW.lt _ _ _ k1
      have lt2 := hW.lt _ _ _ m1
      have hb1 := hheap m dk os b1 lt1 n1
      have hb2 := hheap m dk os b2 lt2 n2
      have hsz2 := hsize m dk os
      have hMk : M bk' := by rw [← hM]; exact .inr ⟨0, _, c', rfl, rfl, hb'⟩
      have data : ∀ {v : Value} {u : AV}, nref u = true → V w M bs v u → V (sortWorld strV w bk' 0 m dk os) (fun _ => False) nob v u := fun hu hv => hv.free (fun _ _ _ h => h) (fun b hb hm => hheap m dk os b hb (fun e => hm (e ▸ hMk))) hsz2 nob hu
      have := ADet.grown (hc x y) rfl (w := sortWorld strV w bk' 0 m dk os) (cargs := [strV x, strV y, .pointer (some ⟨b1, 0, none⟩)]) rfl (fun j v u hv hu => ?_)
      · simpa [valA] using this
      match j with
      | 0 => obtain rfl := oJ7 hv; obtain rfl := oJ7 hu; exact .str rfl
      | 1 => obtain rfl := oJ7 hv; obtain rfl := oJ7 hu; exact .str rfl
      | 2 =>
        obtain rfl := oJ7 hv; obtain rfl := oJ7 hu
        refine .vptr (fun _ => .map (some b2)) (fun h => h) (by show b1 < _; omega) (fun j hj => ?_) (fun j hj => rfl) (fun j u hu => ?_)
        · have hj : j = 0 := by simpa using hj
          subst hj
          show World.cell? _ ((⟨b1, 0, none⟩ : Addr).add 0) = _
          rw [Addr.add_lit, cell_of_row _ b1 _ _ _ (0, 0) (hb1.trans k2)]
          rfl
        · match j with
          | 0 =>
            obtain rfl := oJ7 hu
            have ent : ∀ (i : Nat) (e : MapEntry), ents[i]? = some e → ∃ p, es[i]? = some p ∧ p ∈ es := fun i e he => by
              have : i < es.length := by rw [← m3.1]; exact (Array.getElem?_eq_some_iff.1 he).1
              exact ⟨es[i], List.getElem?_eq_getElem this, List.getElem_mem this⟩
            refine .vmap (fun h => h) (by show b2 < _; omega) (hb2.trans m2) m3.1 (fun i e u he hu => ?_) (fun i e u he hu => ?_)
            · obtain ⟨p, hp, hpe⟩ := ent i e he
              obtain rfl : p.1 = u := by simpa [entF, hp] using hu
              exact data (hes p hpe).1 (m3.2 i e p he hp).1
            · obtain ⟨p, hp, hpe⟩ := ent i e he
              obtain rfl : p.2 = u := by simpa [entF, hp] using hu
              exact data (hes p hpe).2 (m3.2 i e p he hp).2
          | j + 1 => simp at hu
      | j + 3 => simp at hv
    have hcall := hS #[.pointer (some ⟨b1, 0, none⟩)] bk' c' ((List.range n).map f).toArray w hC hH hblk (by rw [hds]; exact hn)
    rw [hds] at hcall
    refine hcall.mono ?_
    rintro e w' ⟨rfl, d', m, os, hperm, hsort, rfl⟩
    have hd' : d'.size = n := hperm.1.trans hds
    have hlist : d'.toList = (List.range n).map (fun i => d'[i]!) := by
      apply List.ext_getElem?
      intro i
      rw [List.getElem?_map, Array.getElem?_toList]
      by_cases hi : i < n
      · rw [List.getElem?_range hi, Option.map_some, getElem!_pos d' i (by omega), Array.getElem?_eq_getElem (by omega)]
      · rw [Array.getElem?_eq_none (by omega), List.getElem?_eq_none (by simp; omega)]; rfl
    have hnew : (sortWorld strV w bk' 0 m d' os).heap[bk']? = some (.cells (putCells strV 0 d' vs) t (0, 0)) := by
      show ((putRow strV (Sort.ahead w m) bk' 0 d').heap ++ os)[bk']? = _
      rw [Array.getElem?_append_left (by rw [show (putRow strV (Sort.ahead w m) bk' 0 d').heap.size = w.heap.size from by simp [putRow, mapBlock]]; exact hblk)]
      simp [putRow, mapBlock, Array.getElem?_modify, hh, onCells]
    have hcell : ∀ i, i < n → ∀ v, (putCells strV 0 d' vs)[i]? = some v → v = strV d'[i]! := fun i hi v hv => by
      have hlt2 : i < vs.size := by omega
      simp only [putCells, Array.getElem?_mapIdx, Array.getElem?_eq_getElem hlt2, Option.map_some, hd', zL7, Nat.zero_add, hi, and_self, if_true, Nat.sub_zero, sI7] at hv
      exact hv.symm
    refine ⟨_, .tuple [], [(0, .row t 1 n (fun i => [.str d'[i]!]) false), (1, .cells [.map 2] ct), (2, .amap es)], bs, rfl, ⟨rfl, fun i => d'[i]!, ?_, fun i j hij hj => ?_, rfl⟩, ?_, .tuple rfl (fun j v u hv hu => by simp at hu), hbs fun i => d'[i]!⟩
    · have := hperm.2.2
      have e1 : d'.extract 0 n = d' := by rw [← hd']; exact Array.extract_size
      have e2 : ((List.range n).map f).toArray.extract 0 n = ((List.range n).map f).toArray := by
        have := Array.extract_size (xs := ((List.range n).map f).toArray)
        rwa [hds] at this
      rw [e1, e2] at this
      rw [← hlist]; simpa using this
    · have := hsort i j (zL7 _) hij hj
      simpa [ltOf] using this
    · rw [← hM] at *
      have back : ∀ (r : Nat) (o : AObj), lk [(0, AObj.row t 1 n (fun i => [.str d'[i]!]) false), (1, .cells [.map 2] ct), (2, .amap es)] r = some o → o.mut = true ∧ (r = 0 ∨ lk [(0, AObj.row t 1 n (fun i => [.str (f i)]) false), (1, .cells [.map 2] ct), (2, .amap es)] r = some o) ∧
          ∃ o', lk [(0, AObj.row t 1 n (fun i => [.str (f i)]) false), (1, .cells [.map 2] ct), (2, .amap es)] r = some o' ∧ o'.mut = true := fun r o ho => by
        match r, ho with
        | 0, ho => obtain rfl := oJ7 ho; exact ⟨rfl, .inl rfl, _, rfl, rfl⟩
        | 1, ho => obtain rfl := oJ7 ho; exact ⟨rfl, .inr rfl, _, rfl, rfl⟩
        | 2, ho => obtain rfl := oJ7 ho; exact ⟨rfl, .inr rfl, _, rfl, rfl⟩
        | r + 3, ho => rw [wax, if_neg (by show ¬ 0 = r + 3; omega), wax, if_neg (by show ¬ 1 = r + 3; omega), wax, if_neg (by show ¬ 2 = r + 3; omega)] at ho; cases ho
      have hmb : ∀ b, mutB (lk [(0, AObj.row t 1 n (fun i => [.str d'[i]!]) false), (1, .cells [.map 2] ct), (2, .amap es)]) bs b → mutB (lk [(0, AObj.row t 1 n (fun i => [.str (f i)]) false), (1, .cells [.map 2] ct), (2, .amap es)]) bs b := by
        rintro b ⟨r, o, c2, ho, hm, hb2⟩
        obtain ⟨_, _, o', q1, q2⟩ := back r o ho
        exact ⟨r, o', c2, q1, q2, hb2⟩
      refine (hW.next (w' := sortWorld strV w bk' 0 m d' os) (fun b => b = bk') (fun i h hi => hi) (fun i b c' hi => .inl hi) (fun b hb2 => by subst hb2; exact ⟨0, _, c', rfl, rfl, hb'⟩) (fun b hb2 hne => hheap m d' os b hb2 hne) (hsize m d' os) (fun b hb2 => .inl (hmb b hb2)) (fun hSt i o' ho => ?_)
        (fun i j o1 o2 b c1 c2 hi hj _ _ bi bj => ?_) (fun i t' sz' n' f' b c2 ho hb2 => ?_) rfl ⟨rfl, fun _ => Nat.le_add_right _ _⟩ rfl).2
      · obtain ⟨_, hr | hr, _⟩ := back i o' ho
        · subst hr
          obtain rfl := oJ7 ho
          refine .inr (.inr ⟨bk', c', _, hb', hnew, hnc', hcm', by simp [putCells, hsz], fun i hi => rfl, fun i hi j hj v hv => ?_, fun i hi j v u hj hv hu => ?_⟩)
          · obtain rfl : j = 0 := by omega
            rw [Nat.mul_one] at hv
            rw [hcell i hi v hv]; rfl
          · obtain rfl : j = 0 := by omega
            rw [Nat.mul_one] at hv
            rw [hcell i hi v hv]
            obtain rfl := oJ7 hu
            exact .str rfl
        · by_cases h0 : i = 0
          · subst h0
            obtain rfl := oJ7 ho
            refine .inr (.inr ⟨bk', c', _, hb', hnew, hnc', hcm', by simp [putCells, hsz], fun i hi => rfl, fun i hi j hj v hv => ?_, fun i hi j v u hj hv hu => ?_⟩)
            · obtain rfl : j = 0 := by omega
              rw [Nat.mul_one] at hv
              rw [hcell i hi v hv]; rfl
            · obtain rfl : j = 0 := by omega
              rw [Nat.mul_one] at hv
              rw [hcell i hi v hv]
              obtain rfl := oJ7 hu
              exact .str rfl
          · refine .inl ⟨hr, fun b c3 hbi e => ?_⟩
            subst e
            obtain ⟨hm1, _⟩ := back i o' ho
            exact h0 (hW.sep i 0 o' _ _ c3 c' hr rfl hm1 rfl hbi hb')
      · obtain ⟨_, _, p1, q1, q2⟩ := back i o1 hi
        obtain ⟨_, _, p2, q3, q4⟩ := back j o2 hj
        exact hW.sep i j p1 p2 b c1 c2 q1 q3 q2 q4 bi bj
      · obtain ⟨q, _⟩ := back i _ ho
        cases q
end Go.Eng
namespace Go.Eng
open Go.Proofs Go.RowKit
variable {C:Ctx}
set_option maxRecDepth 20000
theorem nf_ncmp(x y:List UInt8)(n:Nat)(f:Nat->List AV)(R:oR7):wpFn te [(94,.det wel),(95,.det wc5),(93,.det S_or)] [] 0 Tryz.f92 [.str x,.str y,.vptr [.vmap n f]] [] R=(letI z4:=TI.desc (tiO Tryz.prog false 9);letI z0:=zvA (.agg [.str ([]),.q 0,.q 0,.q 0,.nil,.nil,.nil]);letI z2:=Option.getD (mget (wdy n f) (.str y)) z0;letI z14:=wao (was z2 (0+1));letI z12:=was z2 (0+1+1+1+1);letI z10:=wao (was z2 (0+1+1));letI z8:=was z2 (0+1+1+1+1+1);letI z6:=was z2 (0+1+1+1+1+1+1);letI z1:=Option.getD (mget (wdy n f) (.str x)) z0;letI z13:=wao (was z1 (0+1));letI z11:=was z1 (0+1+1+1+1);letI z9:=wao (was z1 (0+1+1));letI z7:=was z1 (0+1+1+1+1+1);letI z5:=was z1 (0+1+1+1+1+1+1);letI z3:=wap 1 (.q (cmpS (wbh (was z1 0)) (wbh (was z2 0))):: .q (cmpI z13 z14):: .q (cmpI z9 z10):: .q (cmpS x y)::List.append [] wb6);(wb9 z4 (wdy n f)/\.agg [.str (wbh (was z1 0)),.q z13,.q z9,.q (wao (was z1 (0+1+1+1))),.view (vwS z11) (vwN z11) (vwF z11),.view (vwS z7) (vwN z7) (vwF z7),.view (vwS z5) (vwN z5) (vwF z5)]=Option.getD (mget (wdy n f) (.str x)) z0)/\(wb9 z4 (wdy n f)/\.agg [.str (wbh (was z2 0)),.q z14,.q z10,.q (wao (was z2 (0+1+1+1))),.view (vwS z12) (vwN z12) (vwF z12),.view (vwS z8) (vwN z8) (vwF z8),.view (vwS z6) (vwN z6) (vwF z6)]=Option.getD (mget (wdy n f) (.str y)) z0)/\True/\True/\True/\True/\(4<=16777216/\1=1/\4<=9223372036854775807)/\(∀(i:Nat),i<4->true=true)/\(3=3/\false=false/\4=4/\4<=100/\∀(i:Nat),i<4->[AV.q (List.getD [cmpS (wbh (was z1 0)) (wbh (was z2 0)),cmpI z13 z14,cmpI z9 z10,cmpS x y] i (0:Int))]=[.q (vInt z3 i)])/\(∀(i:Nat),i<4->true=true)/\R (.q (orN (vInt z3) 4)) []):=by kernel_rfl
theorem ncmp_ok(hP:C.P=Tryz.prog)(es:List (AV×AV))(hk:wb9 .string es)(hs:∀x,wcr wqf (gotN es x)=gotN es x)(x y:List UInt8):
  ADet C 92 [.str x,.str y,.vptr [.vmap es.length (entF es)]] [] (.q (cmpN es x y)) []:=by
 refine wa4.wpL (prg hP) [(94,.det wel),(95,.det wc5),(93,.det S_or)] [] 0 (.cons (wkk hP) (.cons (wlh hP) (.cons (wkt hP) .nil))) (hP ▸ Tryz.func92) rfl rfl rfl [] (by kernel_rfl) trivial ?_;rw[nf_ncmp,entsV_F,wi7];have four:∀ {p:Nat->Prop},p 0->p 1->p 2->p 3->∀i,i<4->p i:=λh0 h1 h2 h3 i hi=>by
  match i,hi with
  |0,_=>exact h0
  |1,_=>exact h1
  |2,_=>exact h2
  |3,_=>exact h3
 exact⟨⟨hk,hs x⟩,⟨hk,hs y⟩,trivial,trivial,trivial,trivial,⟨by omega,rfl,by omega⟩,four rfl rfl rfl rfl,⟨rfl,rfl,rfl,by omega,four rfl rfl rfl rfl⟩,four rfl rfl rfl rfl,rfl,rfl⟩
end Go.Eng
namespace Go.Proofs
open Go.RowKit
theorem Tryz.slSBlk:Tryz.prog.underlying 93=some (.slice 115):=by kernel_rfl
set_option maxHeartbeats 1000000 in
set_option maxRecDepth 100000 in
theorem Tryz.clone_nilBlk(n c:Nat)(w:World):Calls Tryz.prog 109 #[.slice none n c] w λe w'=>e= .returned (.slice none 0 0)/\w'=w:=by
 have q:∀(w:World) (a:Option Addr) (n c n' c':Nat),(binOp .eql 93 (.slice a n c) (.slice none n' c')).run Tryz.prog w= .ok (.bool a.isNone) w:=λw a n c n' c'=>Lib.run_eql_slice_nil w _ _ a n c n' c' Tryz.slSBlk
 go_enter Tryz.func109,Tryz.ntmps109
 go_wp2
 go_ret
 exact⟨rfl,rfl⟩
set_option maxHeartbeats 1000000 in
set_option maxRecDepth 100000 in
theorem Tryz.clone_noneBlk(a:Addr)(c:Nat)(w:World):Calls Tryz.prog 109 #[.slice (some a) 0 c] w λe w'=>e= .returned (.slice (some ⟨w.heap.size,0,none⟩) 0 0)/\w'=w.alloc (.cells #[] 115):=by
 have q:∀(w:World) (a:Option Addr) (n c n' c':Nat),(binOp .eql 93 (.slice a n c) (.slice none n' c')).run Tryz.prog w= .ok (.bool a.isNone) w:=λw a n c n' c'=>Lib.run_eql_slice_nil w _ _ a n c n' c' Tryz.slSBlk
 go_enter Tryz.func109,Tryz.ntmps109
 go_wp2
 go_ret
 exact⟨rfl,rfl⟩
theorem Tryz.slSMsg:Tryz.prog.underlying 22=some (.slice 40):=by kernel_rfl
set_option maxHeartbeats 1000000 in
set_option maxRecDepth 100000 in
theorem Tryz.clone_nilMsg(n c:Nat)(w:World):Calls Tryz.prog 140 #[.slice none n c] w λe w'=>e= .returned (.slice none 0 0)/\w'=w:=by
 have q:∀(w:World) (a:Option Addr) (n c n' c':Nat),(binOp .eql 22 (.slice a n c) (.slice none n' c')).run Tryz.prog w= .ok (.bool a.isNone) w:=λw a n c n' c'=>Lib.run_eql_slice_nil w _ _ a n c n' c' Tryz.slSMsg
 go_enter Tryz.func140,Tryz.ntmps140
 go_wp2
 go_ret
 exact⟨rfl,rfl⟩
set_option maxHeartbeats 1000000 in
set_option maxRecDepth 100000 in
theorem Tryz.clone_noneMsg(a:Addr)(c:Nat)(w:World):Calls Tryz.prog 140 #[.slice (some a) 0 c] w λe w'=>e= .returned (.slice (some ⟨w.heap.size,0,none⟩) 0 0)/\w'=w.alloc (.cells #[] 40):=by
 have q:∀(w:World) (a:Option Addr) (n c n' c':Nat),(binOp .eql 22 (.slice a n c) (.slice none n' c')).run Tryz.prog w= .ok (.bool a.isNone) w:=λw a n c n' c'=>Lib.run_eql_slice_nil w _ _ a n c n' c' Tryz.slSMsg
 go_enter Tryz.func140,Tryz.ntmps140
 go_wp2
 go_ret
 exact⟨rfl,rfl⟩
theorem Tryz.slSRow:Tryz.prog.underlying 46=some (.slice 61):=by kernel_rfl
set_option maxHeartbeats 1000000 in
set_option maxRecDepth 100000 in
theorem Tryz.clone_nilRow(n c:Nat)(w:World):Calls Tryz.prog 141 #[.slice none n c] w λe w'=>e= .returned (.slice none 0 0)/\w'=w:=by
 have q:∀(w:World) (a:Option Addr) (n c n' c':Nat),(binOp .eql 46 (.slice a n c) (.slice none n' c')).run Tryz.prog w= .ok (.bool a.isNone) w:=λw a n c n' c'=>Lib.run_eql_slice_nil w _ _ a n c n' c' Tryz.slSRow
 go_enter Tryz.func141,Tryz.ntmps141
 go_wp2
 go_ret
 exact⟨rfl,rfl⟩
set_option maxHeartbeats 1000000 in
set_option maxRecDepth 100000 in
theorem Tryz.clone_noneRow(a:Addr)(c:Nat)(w:World):Calls Tryz.prog 141 #[.slice (some a) 0 c] w λe w'=>e= .returned (.slice (some ⟨w.heap.size,0,none⟩) 0 0)/\w'=w.alloc (.cells #[] 61):=by
 have q:∀(w:World) (a:Option Addr) (n c n' c':Nat),(binOp .eql 46 (.slice a n c) (.slice none n' c')).run Tryz.prog w= .ok (.bool a.isNone) w:=λw a n c n' c'=>Lib.run_eql_slice_nil w _ _ a n c n' c' Tryz.slSRow
 go_enter Tryz.func141,Tryz.ntmps141
 go_wp2
 go_ret
 exact⟨rfl,rfl⟩
theorem Tryz.slSRat:Tryz.prog.underlying 47=some (.slice 97):=by kernel_rfl
set_option maxHeartbeats 1000000 in
set_option maxRecDepth 100000 in
theorem Tryz.clone_nilRat(n c:Nat)(w:World):Calls Tryz.prog 142 #[.slice none n c] w λe w'=>e= .returned (.slice none 0 0)/\w'=w:=by
 have q:∀(w:World) (a:Option Addr) (n c n' c':Nat),(binOp .eql 47 (.slice a n c) (.slice none n' c')).run Tryz.prog w= .ok (.bool a.isNone) w:=λw a n c n' c'=>Lib.run_eql_slice_nil w _ _ a n c n' c' Tryz.slSRat
 go_enter Tryz.func142,Tryz.ntmps142
 go_wp2
 go_ret
 exact⟨rfl,rfl⟩
set_option maxHeartbeats 1000000 in
set_option maxRecDepth 100000 in
theorem Tryz.clone_noneRat(a:Addr)(c:Nat)(w:World):Calls Tryz.prog 142 #[.slice (some a) 0 c] w λe w'=>e= .returned (.slice (some ⟨w.heap.size,0,none⟩) 0 0)/\w'=w.alloc (.cells #[] 97):=by
 have q:∀(w:World) (a:Option Addr) (n c n' c':Nat),(binOp .eql 47 (.slice a n c) (.slice none n' c')).run Tryz.prog w= .ok (.bool a.isNone) w:=λw a n c n' c'=>Lib.run_eql_slice_nil w _ _ a n c n' c' Tryz.slSRat
 go_enter Tryz.func142,Tryz.ntmps142
 go_wp2
 go_ret
 exact⟨rfl,rfl⟩
end Go.Proofs
namespace Go.Eng
open Go.Proofs Go.RowKit
variable {C:Ctx} [C.Loose]
set_option maxRecDepth 20000
theorem w47(n:Nat)(f:Nat->List AV)(R:oR7):wpFn te [] [] 0 Tryz.f109 [.view 2 (n+1) f] [] R=(letI z0:=wap 2 (List.flatten (List.replicate 0 [.q 0,.q 0]));(0<=16777216/\2=2/\0<=9223372036854775807)/\(2=2/\0<=0/\2=2/\115=115/\2=2/\0+(n+1)<=9223372036854775807/\(0+(n+1)) * 16<=140737488355328)/\(∀(i:Nat),i<0+(n+1)->nrefL (apF 0 z0 f i)=true)/\∃(O':oL7),wai [(0,.row 115 2 (0+(n+1)) (apF 0 z0 f) false)] O'/\R (.own 0 (0+(n+1))) O'):=by kernel_rfl
theorem w46(n:Nat)(f:Nat->List AV)(R:oR7):wpFn te [] [] 0 Tryz.f140 [.view 15 (n+1) f] [] R=(letI z0:=wap 15 (List.flatten (List.replicate 0 [.str ([]),.q 0,.q 0,.str ([]),.str ([]),.q 0,.q 0,.q 0,.q 0,.str ([]),.str ([]),.str ([]),.q 0,.str ([]),.q 0]));(0<=16777216/\15=15/\0<=9223372036854775807)/\(15=15/\0<=0/\15=15/\40=40/\15=15/\0+(n+1)<=9223372036854775807/\(0+(n+1)) * 176<=140737488355328)/\(∀(i:Nat),i<0+(n+1)->nrefL (apF 0 z0 f i)=true)/\∃(O':oL7),wai [(0,.row 40 15 (0+(n+1)) (apF 0 z0 f) false)] O'/\R (.own 0 (0+(n+1))) O'):=by kernel_rfl
theorem w44(n:Nat)(f:Nat->List AV)(R:oR7):wpFn te [] [] 0 Tryz.f141 [.view 5 (n+1) f] [] R=(letI z0:=wap 5 (List.flatten (List.replicate 0 [.str ([]),.str ([]),.q 0,.q 0,.q 0]));(0<=16777216/\5=5/\0<=9223372036854775807)/\(5=5/\0<=0/\5=5/\61=61/\5=5/\0+(n+1)<=9223372036854775807/\(0+(n+1)) * 56<=140737488355328)/\(∀(i:Nat),i<0+(n+1)->nrefL (apF 0 z0 f i)=true)/\∃(O':oL7),wai [(0,.row 61 5 (0+(n+1)) (apF 0 z0 f) false)] O'/\R (.own 0 (0+(n+1))) O'):=by kernel_rfl
theorem w45(n:Nat)(f:Nat->List AV)(R:oR7):wpFn te [] [] 0 Tryz.f142 [.view 5 (n+1) f] [] R=(letI z0:=wap 5 (List.flatten (List.replicate 0 [.str ([]),.str ([]),.q 0,.q 0,.nil]));(0<=16777216/\5=5/\0<=9223372036854775807)/\(5=5/\0<=0/\5=5/\97=97/\5=5/\0+(n+1)<=9223372036854775807/\(0+(n+1)) * 72<=140737488355328)/\(∀(i:Nat),i<0+(n+1)->nrefL (apF 0 z0 f i)=true)/\∃(O':oL7),wai [(0,.row 97 5 (0+(n+1)) (apF 0 z0 f) false)] O'/\R (.own 0 (0+(n+1))) O'):=by kernel_rfl
theorem wmb(w:World)(o:Obj):Below w.heap.size w (w.alloc o):=(Below.refl _ w).alloc (lR7 _) _
theorem wfu{w:World}{M:Nat->Prop}{bs:Nat->Option Hd}{A:Option Addr}{sz:Nat}{f:Nat->List AV}:V w M bs (.slice A 0 0) (.view sz 0 f):=
 .view ⟨0,0,none⟩ (λ_ _=>default) (lR7 _) (zL7 _) (λh=>absurd h (Nat.lt_irrefl 0)) (λi h=>absurd h (nZ7 i)) (λi h=>absurd h (nZ7 i)) (λi h=>absurd h (nZ7 i)) (λi h=>absurd h (nZ7 i))
theorem clBlk0(hP:C.P=Tryz.prog)(f:Nat->List AV):wal C 109 [.view 2 0 f] [] λu' O=>u'= .view 2 0 f/\O=[]:=by
 refine wal.below ⟨_,hP ▸ Tryz.func109,rfl,by decide⟩ λw M cargs hlaid _ hM hl hv=>?_;obtain⟨a,rfl⟩:=mem1 hl;have V0:=hv 0 _ _ rfl rfl
 cases V0 with | @view _ A _ c _ _ ad cv hn hcm hA hl hc h1 hv'=>
 rw[hP]
 cases A with
 |none=>
  refine(Tryz.clone_nilBlk 0 c w).mono ?_;rintro e w' ⟨rfl,rfl⟩;exact⟨_,rfl,Below.refl _ _,wfu⟩
 |some a=>
  refine(Tryz.clone_noneBlk a c w).mono ?_;rintro e w' ⟨rfl,rfl⟩;exact⟨_,rfl,wmb _ _,wfu⟩
theorem clMsg0(hP:C.P=Tryz.prog)(f:Nat->List AV):wal C 140 [.view 15 0 f] [] λu' O=>u'= .view 15 0 f/\O=[]:=by
 refine wal.below ⟨_,hP ▸ Tryz.func140,rfl,by decide⟩ λw M cargs hlaid _ hM hl hv=>?_;obtain⟨a,rfl⟩:=mem1 hl;have V0:=hv 0 _ _ rfl rfl
 cases V0 with | @view _ A _ c _ _ ad cv hn hcm hA hl hc h1 hv'=>
 rw[hP]
 cases A with
 |none=>
  refine(Tryz.clone_nilMsg 0 c w).mono ?_;rintro e w' ⟨rfl,rfl⟩;exact⟨_,rfl,Below.refl _ _,wfu⟩
 |some a=>
  refine(Tryz.clone_noneMsg a c w).mono ?_;rintro e w' ⟨rfl,rfl⟩;exact⟨_,rfl,wmb _ _,wfu⟩
theorem clRow0(hP:C.P=Tryz.prog)(f:Nat->List AV):wal C 141 [.view 5 0 f] [] λu' O=>u'= .view 5 0 f/\O=[]:=by
 refine wal.below ⟨_,hP ▸ Tryz.func141,rfl,by decide⟩ λw M cargs hlaid _ hM hl hv=>?_;obtain⟨a,rfl⟩:=mem1 hl;have V0:=hv 0 _ _ rfl rfl
 cases V0 with | @view _ A _ c _ _ ad cv hn hcm hA hl hc h1 hv'=>
 rw[hP]
 cases A with
 |none=>
  refine(Tryz.clone_nilRow 0 c w).mono ?_;rintro e w' ⟨rfl,rfl⟩;exact⟨_,rfl,Below.refl _ _,wfu⟩
 |some a=>
  refine(Tryz.clone_noneRow a c w).mono ?_;rintro e w' ⟨rfl,rfl⟩;exact⟨_,rfl,wmb _ _,wfu⟩
theorem clRat0(hP:C.P=Tryz.prog)(f:Nat->List AV):wal C 142 [.view 5 0 f] [] λu' O=>u'= .view 5 0 f/\O=[]:=by
 refine wal.below ⟨_,hP ▸ Tryz.func142,rfl,by decide⟩ λw M cargs hlaid _ hM hl hv=>?_;obtain⟨a,rfl⟩:=mem1 hl;have V0:=hv 0 _ _ rfl rfl
 cases V0 with | @view _ A _ c _ _ ad cv hn hcm hA hl hc h1 hv'=>
 rw[hP]
 cases A with
 |none=>
  refine(Tryz.clone_nilRat 0 c w).mono ?_;rintro e w' ⟨rfl,rfl⟩;exact⟨_,rfl,Below.refl _ _,wfu⟩
 |some a=>
  refine(Tryz.clone_noneRat a c w).mono ?_;rintro e w' ⟨rfl,rfl⟩;exact⟨_,rfl,wmb _ _,wfu⟩
theorem wmd(g f:Nat->List AV):apF 0 g f=f:=by
 funext i;simp[apF]
theorem wko{t:TypeId}{k n:Nat}{f:Nat->List AV}{R:AV->List (Nat×AObj)->Prop}(h:R (.own 0 n) [(0,.row t k n f false)]):∃(O':List (Nat×AObj)),wai [(0,.row t k n f false)] O'/\R (.own 0 n) O':=⟨_,wau _,h⟩
theorem clBlk1(hP:C.P=Tryz.prog)(n:Nat)(f:Nat->List AV)(hn:n+1<=100000)(hf:∀i,i<n+1->nrefL (f i)=true){R:AV->List (Nat×AObj)->Prop}(h:R (.own 0 (n+1)) [(0,.row 115 2 (n+1) f false)]):wal C 109 [.view 2 (n+1) f] [] R:=by
 have _:C.Loose:=inferInstance;refine wa4.wpL (prg hP) [] [] 0 .nil (hP ▸ Tryz.func109) rfl rfl rfl [] (by kernel_rfl) trivial ?_;rw[w47,wmd,Nat.zero_add];refine⟨⟨by omega,rfl,by omega⟩,⟨rfl,by omega,rfl,rfl,rfl,by omega,?_⟩,hf,wko h⟩;show (n+1) * _<=_;refine Nat.le_trans (Nat.mul_le_mul_right _ hn) (by decide)
theorem wy4(hP:C.P=Tryz.prog):wah C 109 woe:=by
 rintro args objs U Os vc h hvc;unfold woe at h;split at h<;>cases h;rename_i n f;obtain⟨hn,hf⟩:=hvc
 cases n with
 |zero=>exact clBlk0 hP f
 |succ n=>
  refine wal.frzO 0 (clBlk1 hP n f hn hf ⟨hf,?_⟩);have hb:Nat.ble (n+1) (n+1)=true:=Nat.ble_eq_true_of_le (lR7 _)
  constructor
  .simp[frzC,frzA,frz,hb]
  .rfl
theorem clMsg1(hP:C.P=Tryz.prog)(n:Nat)(f:Nat->List AV)(hn:n+1<=100000)(hf:∀i,i<n+1->nrefL (f i)=true){R:AV->List (Nat×AObj)->Prop}(h:R (.own 0 (n+1)) [(0,.row 40 15 (n+1) f false)]):wal C 140 [.view 15 (n+1) f] [] R:=by
 have _:C.Loose:=inferInstance;refine wa4.wpL (prg hP) [] [] 0 .nil (hP ▸ Tryz.func140) rfl rfl rfl [] (by kernel_rfl) trivial ?_;rw[w46,wmd,Nat.zero_add];refine⟨⟨by omega,rfl,by omega⟩,⟨rfl,by omega,rfl,rfl,rfl,by omega,?_⟩,hf,wko h⟩;show (n+1) * _<=_;refine Nat.le_trans (Nat.mul_le_mul_right _ hn) (by decide)
theorem wy3(hP:C.P=Tryz.prog):wah C 140 wif:=by
 rintro args objs U Os vc h hvc;unfold wif at h;split at h<;>cases h;rename_i n f;obtain⟨hn,hf⟩:=hvc
 cases n with
 |zero=>exact clMsg0 hP f
 |succ n=>
  refine wal.frzO 0 (clMsg1 hP n f hn hf ⟨hf,?_⟩);have hb:Nat.ble (n+1) (n+1)=true:=Nat.ble_eq_true_of_le (lR7 _)
  constructor
  .simp[frzC,frzA,frz,hb]
  .rfl
theorem clRow1(hP:C.P=Tryz.prog)(n:Nat)(f:Nat->List AV)(hn:n+1<=100000)(hf:∀i,i<n+1->nrefL (f i)=true){R:AV->List (Nat×AObj)->Prop}(h:R (.own 0 (n+1)) [(0,.row 61 5 (n+1) f false)]):wal C 141 [.view 5 (n+1) f] [] R:=by
 have _:C.Loose:=inferInstance;refine wa4.wpL (prg hP) [] [] 0 .nil (hP ▸ Tryz.func141) rfl rfl rfl [] (by kernel_rfl) trivial ?_;rw[w44,wmd,Nat.zero_add];refine⟨⟨by omega,rfl,by omega⟩,⟨rfl,by omega,rfl,rfl,rfl,by omega,?_⟩,hf,wko h⟩;show (n+1) * _<=_;refine Nat.le_trans (Nat.mul_le_mul_right _ hn) (by decide)
theorem wy1(hP:C.P=Tryz.prog):wah C 141 wid:=by
 rintro args objs U Os vc h hvc;unfold wid at h;split at h<;>cases h;rename_i n f;obtain⟨hn,hf⟩:=hvc
 cases n with
 |zero=>exact clRow0 hP f
 |succ n=>
  refine wal.frzO 0 (clRow1 hP n f hn hf ⟨hf,?_⟩);have hb:Nat.ble (n+1) (n+1)=true:=Nat.ble_eq_true_of_le (lR7 _)
  constructor
  .simp[frzC,frzA,frz,hb]
  .rfl
theorem clRat1(hP:C.P=Tryz.prog)(n:Nat)(f:Nat->List AV)(hn:n+1<=100000)(hf:∀i,i<n+1->nrefL (f i)=true){R:AV->List (Nat×AObj)->Prop}(h:R (.own 0 (n+1)) [(0,.row 97 5 (n+1) f false)]):wal C 142 [.view 5 (n+1) f] [] R:=by
 have _:C.Loose:=inferInstance;refine wa4.wpL (prg hP) [] [] 0 .nil (hP ▸ Tryz.func142) rfl rfl rfl [] (by kernel_rfl) trivial ?_;rw[w45,wmd,Nat.zero_add];refine⟨⟨by omega,rfl,by omega⟩,⟨rfl,by omega,rfl,rfl,rfl,by omega,?_⟩,hf,wko h⟩;show (n+1) * _<=_;refine Nat.le_trans (Nat.mul_le_mul_right _ hn) (by decide)
theorem wy2(hP:C.P=Tryz.prog):wah C 142 wie:=by
 rintro args objs U Os vc h hvc;unfold wie at h;split at h<;>simp only[sI7,pI7,reduceCtorEq] at h
 .obtain⟨rfl,rfl,rfl⟩:=h;exact clRat0 hP _
 .obtain⟨rfl,rfl,rfl⟩:=h;exact clRat1 hP _ _ hvc.1 hvc.2 ⟨rfl,rfl⟩
theorem nf_cpd0(F:FL)(R:oR7):wpFn te [(140,.det wif),(141,.det wid),(142,.det wie)] [] 1 Tryz.f96 [.agg [.str F.id,.q F.ver,.q F.day,.q F.kind,.view 15 F.ms.length (wad (atM F.ms)),.view 5 F.rs.length (wae (atR F.rs)),.view 5 0 (wag (atT []))]] [] R=((F.ms.length<=100000/\∀(i:Nat),i<F.ms.length->true=true)/\(F.rs.length<=100000/\∀(i:Nat),i<F.rs.length->true=true)/\True/\(True/\True)/\R (.agg [.str F.id,.q F.ver,.q F.day,.q F.kind,.view 15 F.ms.length (wad (atM F.ms)),.view 5 F.rs.length (wae (atR F.rs)),.view 5 0 (wag (atT []))]) []):=by kernel_rfl
theorem nf_cpd(F:FL)(t:RT)(l:List RT)(R:oR7):wpFn te [(140,.det wif),(141,.det wid),(142,.det wie)] [(3,L_kc F)] 0 Tryz.f96 [.agg [.str F.id,.q F.ver,.q F.day,.q F.kind,.view 15 F.ms.length (wad (atM F.ms)),.view 5 F.rs.length (wae (atR F.rs)),.view 5 (l.length+1) (wag (atT (t::l)))]] [] R=(letI z6:=wae (atR F.rs);letI z5:=F.rs.length;letI z4:=wad (atM F.ms);letI z3:=F.ms.length;letI z2:=l.length+1;letI z1:=([.str [],.q 0,.q 0,.q 0,.nil,.nil,.nil]:List AV);letI z0:=F.ts.length;(F.ms.length<=100000/\∀(i:Nat),i<F.ms.length->true=true)/\(F.rs.length<=100000/\∀(i:Nat),i<F.rs.length->true=true)/\(l.length+1<=100000/\∀(i:Nat),i<l.length+1->true=true)/\(∀(i:Nat),i<l.length+1->true=true)/\(TEq [(1,.ptr 0 0),(2,.ptr 1 0),(17,.own 2 z2),(18,.q (z2:Int)),(19,.q 0)] [(1,.ptr 0 0),(2,.ptr 1 0),(17,.own 2 z0),(18,.q (z0:Int)),(19,.q (↑0:Int))]/\wai [(0,.cells [.str F.id,.q F.ver,.q F.day,.q F.kind,.view 15 z3 z4,.view 5 z5 z6,.own 2 z2] 49),(1,.cells z1 49),(2,.row 97 5 z2 (wag (atT (t::l))) false)] [(0,.cells [.str F.id,.q F.ver,.q F.day,.q F.kind,.view 15 z3 z4,.view 5 z5 z6,.own 2 z0] 49),(1,.cells z1 49),(2,.row 97 5 z0 (wag (atT F.ts)) false)])/\F.ts.length<=1000/\(∀(t:RT),t∈F.ts->t.bs.length<=1000)/\(True/\True)/\(∀(i:Nat),i<F.ts.length->true=true)/\∃(O':oL7),wai [(0,.row 97 5 z0 (wag (atT F.ts)) false)] O'/\R (.agg [.str F.id,.q F.ver,.q F.day,.q F.kind,.view 15 z3 z4,.view 5 z5 z6,.own 0 z0]) O'):=by kernel_rfl
theorem w4d(F:FL)(k:Nat)(P:Nat->Prop)(R:eR7):wa1 ⟨te,[(109,.det woe)],[],0,38,0⟩ (wa2 Tryz.f96 3) [1,2,17,18,19] [1,2] [] (S_kc F) P R (S_kc F k)=(letI z4:=([.str [],.q 0,.q 0,.q 0,.nil,.nil,.nil]:List AV);letI z2:=F.ts.length;letI z5:=((0:Int)<=(k:Int)/\(k:Int)<(z2:Int):Prop);letI z1:=(atT F.ts (k:Int).toNat);letI z0:=([.str F.id,.q F.ver,.q F.day,.q F.kind,.view 15 F.ms.length (wad (atM F.ms)),.view 5 F.rs.length (wae (atR F.rs)),.own 2 z2]:List AV);letI z3:=([(0,.cells z0 49),(1,.cells z4 49),(2,.row 97 5 z2 (wag (atT F.ts)) false)]:oL7);wab (decide ((k:Int)<(z2:Int))) (z5/\((k:Int).toNat<F.ts.length/\5=5)/\(z1.bs.length<=100000/\∀(i:Nat),i<z1.bs.length->true=true)/\z5/\(List.length [AV.view 2 z1.bs.length (wan (atB z1.bs))]=1/\(k:Int).toNat<F.ts.length/\5=5)/\inR .i64 ((k:Int)+1)/\∃(i':Nat),(TEq [(1,.ptr 0 0),(2,.ptr 1 0),(17,.own 2 z2),(18,.q (z2:Int)),(19,.q ((k:Int)+1))] [(1,.ptr 0 0),(2,.ptr 1 0),(17,.own 2 z2),(18,.q (z2:Int)),(19,.q (i':Int))]/\wai [(0,.cells z0 49),(1,.cells z4 49),(2,.row 97 5 z2 (λ(k_1:Nat)=>if k_1=Int.toNat (k:Int) then [.str z1.o,.str z1.p,.q z1.per,.q z1.st,.view 2 z1.bs.length (wan (atB z1.bs))] else wag (atT F.ts) k_1) false)] z3)/\P i') ((∀(i:Nat),i<F.ts.length->true=true)/\∃(O':oL7),wai z3 O'/\R (.exit 0) (St.mk [(1,.ptr 0 0),(2,.ptr 1 0)] O' 3 []))):=by kernel_rfl
theorem kc_loop(hP:C.P=Tryz.prog)(F:FL):waj C 0 38 (wam Tryz.f96 3) (L_kc F):=by
 rintro s Q ⟨h0,hn,hb,hQ⟩;refine waj.mk (prg hP) [(109,.det woe)] 0 (.cons (wy4 hP) .nil) [1,2,17,18,19] [1,2] [] (S_kc F) (λk=>k<=F.ts.length) (λk=>F.ts.length - k) 0 (zL7 _) h0 (λk hk=>?_) (λ_=>⟨λ_ _=>rfl,trivial⟩);rw[w4d,tN7];refine wak (λh1=>?_) (λh1=>?_)
 .have hlt:k<F.ts.length:=by omega
  have hbk:(atT F.ts k).bs.length<=1000:=hb _ (by
   unfold atT;simp[List.getD,List.getElem?_eq_getElem hlt])
  refine⟨⟨by omega,by omega⟩,⟨hlt,rfl⟩,⟨by omega,λ_ _=>rfl⟩,⟨by omega,by omega⟩,⟨rfl,hlt,rfl⟩,by simp only[inR];omega,k+1,⟨rfl,?_⟩,by omega,by omega⟩;refine⟨rfl,rfl,⟨rfl,rfl,rfl,rfl,rfl,λi hi=>?_⟩,trivial⟩
  by_cases e:i=k
  .subst e;exact if_pos rfl
  .exact if_neg e
 .exact⟨λ_ _=>rfl,_,wau _,hQ⟩
theorem cpd_at(hP:C.P=Tryz.prog)(F:FL)(hm:F.ms.length<=1000)(hr:F.rs.length<=1000)(ht:F.ts.length<=1000)(hb:∀t∈F.ts,t.bs.length<=1000):
  ADet C 96 [.agg [.str F.id,.q F.ver,.q F.day,.q F.kind,.view 15 F.ms.length (wad (atM F.ms)),.view 5 F.rs.length (wae (atR F.rs)),.view 5 F.ts.length (wag (atT F.ts))]] []
   (.agg [.str F.id,.q F.ver,.q F.day,.q F.kind,.view 15 F.ms.length (wad (atM F.ms)),.view 5 F.rs.length (wae (atR F.rs)),.view 5 F.ts.length (wag (atT F.ts))]) []:=by
 obtain⟨id,ver,day,kind,ms,rs,ts⟩:=F
 cases ts with
 |nil=>
  refine wa4.wpL (prg hP) [(140,.det wif),(141,.det wid),(142,.det wie)] [] 1 (.cons (wy3 hP) (.cons (wy1 hP) (.cons (wy2 hP) .nil))) (hP ▸ Tryz.func96) rfl rfl rfl [] (by kernel_rfl) trivial ?_;refine(nf_cpd0 ⟨id,ver,day,kind,ms,rs,[]⟩ _).mpr ?_;exact⟨⟨by omega,λ_ _=>rfl⟩,⟨by omega,λ_ _=>rfl⟩,trivial,⟨trivial,trivial⟩,rfl,rfl⟩
 |cons t l=>
  refine wal.frzO 0 ?_
  refine wa4.wpL (prg hP) [(140,.det wif),(141,.det wid),(142,.det wie)] [(3,L_kc ⟨id,ver,day,kind,ms,rs,t::l⟩)] 0 (.cons (wy3 hP) (.cons (wy1 hP) (.cons (wy2 hP) .nil))) (hP ▸ Tryz.func96) rfl rfl rfl
   [(wam Tryz.f96 3,L_kc ⟨id,ver,day,kind,ms,rs,t::l⟩)] (by kernel_rfl) ⟨kc_loop hP _,trivial⟩ ?_
  refine(nf_cpd ⟨id,ver,day,kind,ms,rs,t::l⟩ t l _).mpr ?_;have h3:l.length+1<=1000:=ht;refine⟨⟨by omega,λ_ _=>rfl⟩,⟨by omega,λ_ _=>rfl⟩,⟨by omega,λ_ _=>rfl⟩,λ_ _=>rfl,⟨rfl,wau _⟩,ht,hb,⟨trivial,trivial⟩,λ_ _=>rfl,_,wau _,λ_ _=>rfl,?_⟩;have hq:Nat.ble (l.length+1) (l.length+1)=true:=Nat.ble_eq_true_of_le (lR7 _)
  constructor
  .simp[frzC,frzA,frz,hq]
  .rfl
theorem vname(id:List UInt8):decide (msgF ⟨id,0,0,⟨[],[],0,0,0,0,[]⟩,⟨[],[],0,[],0⟩⟩=110)= !wa5 id:=by
 unfold msgF
 cases h:wa5 id with
 |true=>
  simp only[Bool.not_true,cond_false];rfl
 |false=>simp only[Bool.not_false,cond_true];rfl
theorem vday(d:Int):decide ((bif decide (0<=d) && decide (d<=182620) then d % 7 else -1)<0)=(decide (d<0) || decide (182620<d)):=by
 by_cases h1:d<0
 .rw[decide_eq_false (show ¬ 0<=d by omega),decide_eq_true h1];rfl
 .by_cases h2:182620<d
  .rw[decide_eq_false (show ¬ d<=182620 by omega),Bool.and_false,decide_eq_true h2,Bool.or_true];rfl
  .rw[decide_eq_true (show 0<=d by omega),decide_eq_true (show d<=182620 by omega),decide_eq_false h1,decide_eq_false h2];exact decide_eq_false (by show ¬ d % 7<0;omega)
theorem vin_ok(hP:C.P=Tryz.prog)(hL:∀w,C.laid w->LaidW w):wah C 29 S_vin:=by
 rintro args objs U Os vc h hvc;unfold S_vin at h;split at h<;>cases h;rename_i id ver day kind nm fm nr fr nt ft;obtain⟨hc,hs⟩:=hvc;have l1:(lst (mgOf fm) nm).length=nm:=by simp[lst]
 have l2:(lst (rwOf fr) nr).length=nr:=by simp[lst]
 have l3:(lst (rtOf ft) nt).length=nt:=by simp[lst]
 obtain⟨c1,c2,c3⟩:=hc;unfold flV at hs ⊢;generalize lst (mgOf fm) nm=ms at *;generalize lst (rwOf fr) nr=rs at *;generalize lst (rtOf ft) nt=ts at *;subst l1;subst l2;subst l3;subst c1;subst c2;subst c3;have hn:=nf_vin ⟨id,ver,day,kind,ms,rs,ts⟩;dsimp only at hn;refine wah.wp0 (prg hP) [(72,.det wcf),(73,.det whw),(74,.det wn9)] 0 (.cons (wjb hP hL) (.cons (wtz hP) (.cons (w74 hP hL) .nil))) (hP ▸ Tryz.func29) rfl rfl rfl ?_;rw[hn];have hid:=hs.id;dsimp only at hid;have fl:=wgp ⟨id,ver,day,kind,ms,rs,ts⟩;have fc:=whm ⟨id,ver,day,kind,ms,rs,ts⟩;dsimp only at fl fc;rw[fl,vname,vday];unfold vinF;dsimp only
 refine⟨⟨hid,by decide,by decide,by decide⟩,waw (λk1=>by rw[k1];exact⟨rfl,rfl⟩) (λk1=>?_)⟩;rw[k1]
 have tail:(decide (ver<1) || decide (1000<ver) || (decide (kind=1) && !decide (ver=1)))=false->True/\wab (decide (day<0) || decide (182620<day)) ((AV.q 152=AV.q (bif false then 150 else bif decide (ver<1) || decide (1000<ver) || (decide (kind=1) && !decide (ver=1)) then 151 else bif decide (day<0) || decide (182620<day) then 152 else bif decide (kind<1) || decide (3<kind) then 153 else bif !ctF ⟨id,ver,day,kind,ms,rs,ts⟩ then 154 else 0))/\([]:List (Nat×AObj))=[])
   (wab (decide (kind<1)) ((AV.q 153=AV.q (bif false then 150 else bif decide (ver<1) || decide (1000<ver) || (decide (kind=1) && !decide (ver=1)) then 151 else bif decide (day<0) || decide (182620<day) then 152 else bif decide (kind<1) || decide (3<kind) then 153 else bif !ctF ⟨id,ver,day,kind,ms,rs,ts⟩ then 154 else 0))/\([]:List (Nat×AObj))=[])
   (wab (decide (3<kind)) ((AV.q 153=AV.q (bif false then 150 else bif decide (ver<1) || decide (1000<ver) || (decide (kind=1) && !decide (ver=1)) then 151 else bif decide (day<0) || decide (182620<day) then 152 else bif decide (kind<1) || decide (3<kind) then 153 else bif !ctF ⟨id,ver,day,kind,ms,rs,ts⟩ then 154 else 0))/\([]:List (Nat×AObj))=[])
   ((FlC ms.length (wad (atM ms)) rs.length (wae (atR rs)) ts.length (wag (atT ts))/\FL.Sm ⟨id,ver,day,kind,ms,rs,ts⟩)/\wab (!ctF ⟨id,ver,day,kind,ms,rs,ts⟩) ((AV.q 154=AV.q (bif false then 150 else bif decide (ver<1) || decide (1000<ver) || (decide (kind=1) && !decide (ver=1)) then 151 else bif decide (day<0) || decide (182620<day) then 152 else bif decide (kind<1) || decide (3<kind) then 153 else bif !ctF ⟨id,ver,day,kind,ms,rs,ts⟩ then 154 else 0))/\([]:List (Nat×AObj))=[])
    ((AV.q 0=AV.q (bif false then 150 else bif decide (ver<1) || decide (1000<ver) || (decide (kind=1) && !decide (ver=1)) then 151 else bif decide (day<0) || decide (182620<day) then 152 else bif decide (kind<1) || decide (3<kind) then 153 else bif !ctF ⟨id,ver,day,kind,ms,rs,ts⟩ then 154 else 0))/\([]:List (Nat×AObj))=[])))):=λe=>by
  rw[e];refine⟨trivial,waw (λd=>by rw[d];exact⟨rfl,rfl⟩) (λd=>?_)⟩;rw[d];refine waw (λk=>by rw[k];exact⟨rfl,rfl⟩) (λk=>waw (λj=>by rw[k,j];exact⟨rfl,rfl⟩) (λj=>⟨⟨fc,hs⟩,?_⟩));rw[k,j];exact waw (λc=>by rw[c];exact⟨rfl,rfl⟩) (λc=>by rw[c];exact⟨rfl,rfl⟩)
 refine waw (λa=>by rw[a];exact⟨rfl,rfl⟩) (λa=>waw (λb=>by rw[a,b];exact⟨rfl,rfl⟩) (λb=>waw (λc=>waw (λd=>by rw[a,b,c,d];exact⟨rfl,rfl⟩) (λd=>tail (by rw[a,b,c,d];rfl))) (λc=>tail (by rw[a,b,c];rfl))))
end Go.Eng
namespace Go.Eng
open Go.Proofs Go.RowKit Go.Sort
variable {C:Ctx} [C.Loose]
set_option maxRecDepth 20000
theorem Tryz.sortStr:SlLaysF.n6 Tryz.prog Tryz.sort91_ren:={ Tryz.sort91 with a24:=Tryz.isAgg9,z24:=Tryz.sizeOf9 }
theorem w0n(hP:C.P=Tryz.prog):wa4 C 91 wzl:=by
 have _:C.Loose:=inferInstance;rintro args objs R h;unfold wzl at h;split at h
 .rename_i n t m f fr ct es;obtain⟨rfl,rfl,rfl,hn,hf,hk,hs,hr,hR⟩:=h;generalize stOf f=h0 at *;subst hf
  have hS:=wal.sortM (C:=C) (cmpN es) (t:=9) (ct:=ct) (fS:=91) (g:=92)
   ⟨_,hP ▸ Tryz.func91,rfl,by decide⟩
   (λcb blk cap d w h1 h2 h3 h4=>by
    rw[hP] at h1 ⊢;exact Any.slices_SortFunc Tryz.sortStr strV (λ_=>rfl) (cmpN es) (wkd (w8b es)) 92 cb blk 0 cap d w (enters_of Tryz.func92 (by kernel_rfl) rfl) h1 h2 h3 h4)
   (λp cap fv w=>by
    rw[hP];exact AnyF.slices_SortFunc_none Tryz.sort91 p cap fv w)
   es hr (λx y=>ncmp_ok (C:=Ctx.bare C.P C.mixed) hP es hk hs x y) (n:=n) h0 (by omega)
  refine hS.mono ?_;rintro u O ⟨rfl,f',hp,hs,rfl⟩;exact hR f' hp hs
 .exact h.elim
end Go.Eng
namespace Go.Eng
open Go.Proofs Go.RowKit
variable {C:Ctx} [C.Loose]
set_option maxRecDepth 20000
theorem nf_nrmA(R:oR7):wpFn te [(29,.det wmj),(33,.det wh8),(91,.rel wou),(96,.det wn8)] [] 2 Tryz.f39 [.view 7 1 (waf (λ_=>aF))] [] R=(letI z25:=sig [89,1,0] 90;letI z24:=(1<=16777216/\1=1/\1<=9223372036854775807:Prop);letI z14:=idxN [89,1,0];letI z10:=TI.desc (tiO Tryz.prog false 9);letI z9:=zvA (.agg [.str ([]),.q 0,.q 0,.q 0,.nil,.nil,.nil]);letI z8:=(0:Int).toNat;letI z28:=(atT ((λ(_x:Nat)=>aF) z8).ts);letI z27:=(atM ((λ(_x:Nat)=>aF) z8).ms);letI z13:=(atR ((λ(_x:Nat)=>aF) z8).rs);letI z6:=([.str [(97:UInt8)],.q ((λ(_x:Nat)=>aF) z8).ver,.q ((λ(_x:Nat)=>aF) z8).day,.q ((λ(_x:Nat)=>aF) z8).kind,.view 15 0 (wad z27),.view 5 1 (wae z13),.view 5 0 (wag z28)]:List AV);letI z3:=(Option.getD (mget [] (.str [(49:UInt8),58,97,44,49,44,50,44,48,44,49,44,49,58,111,44,56,58,57,54,51,56,53,48,55,52,44,53,44,50,44,51,48,48,44,48,44])) z9);letI z2:=(List.map (λ(p:AV×AV)=>(AV.rn z25 p.1,AV.rn z25 p.2)) (List.map (λ(p:AV×AV)=>(AV.rn z14 p.1,AV.rn z14 p.2)) (mset [] (.str [(49:UInt8),58,97,44,49,44,50,44,48,44,49,44,49,58,111,44,56,58,57,54,51,56,53,48,55,52,44,53,44,50,44,51,48,48,44,48,44]) (.agg [.str [(97:UInt8)],.q aF.ver,.q aF.day,.q aF.kind,.view 15 0 (wad (atM aF.ms)),.view 5 1 (wae (atR aF.rs)),.view 5 0 (wag (atT aF.ts))]))));letI z4:=(Option.getD (mget z2 (.str [(49:UInt8),58,97,44,49,44,50,44,48,44,49,44,49,58,111,44,56,58,57,54,51,56,53,48,55,52,44,53,44,50,44,51,48,48,44,48,44])) z9);letI z0:=(mset [] (.str [(49:UInt8),58,97,44,49,44,50,44,48,44,49,44,49,58,111,44,56,58,57,54,51,56,53,48,55,52,44,53,44,50,44,51,48,48,44,48,44]) (.agg z6));letI z26:=z0.length;letI z1:=(Option.getD (mget (List.map (λ(p:AV×AV)=>(AV.rn z25 p.1,AV.rn z25 p.2)) (List.map (λ(p:AV×AV)=>(AV.rn z14 p.1,AV.rn z14 p.2)) z0)) (.str [(49:UInt8),58,97,44,49,44,50,44,48,44,49,44,49,58,111,44,56,58,57,54,51,56,53,48,55,52,44,53,44,50,44,51,48,48,44,48,44])) z9);letI z22:=was z1 (0+1+1+1+1);letI z19:=was z1 (0+1+1+1+1+1);letI z16:=was z1 (0+1+1+1+1+1+1);((0:Int)<=0/\(0:Int)<(↑1:Int)/\7=7)/\(wad z27=wad (atM [])/\wae z13=wae (atR [aR])/\wag z28=wag (atT []))/\wae z13=wae (atR [aR])/\(wb9 z10 []/\AV.agg [.str [],.q (wao (was z3 (0+1))),.q (wao (was z3 (0+1+1))),.q (wao (was z3 (0+1+1+1))),.view 0 0 (vwF (was z3 (0+1+1+1+1))),.view 0 0 (vwF (was z3 (0+1+1+1+1+1))),.view 0 0 (vwF (was z3 (0+1+1+1+1+1+1)))]= .agg [.str [],.q 0,.q 0,.q 0,.view 0 0 λ(_x:Nat)=>[],.view 0 0 λ(_x:Nat)=>[],.view 0 0 λ(_x:Nat)=>[]])/\wb9 z10 []/\inR .i64 ((0:Int)+1)/\1=1/\(List.range z26=[]->False)/\∀(i:Nat),letI z11:=List.getD z0 i (.any,.any);letI z7:=z11.2;letI z21:=was z7 (0+1+1+1+1);letI z18:=was z7 (0+1+1+1+1+1);letI z15:=was z7 (0+1+1+1+1+1+1);i∈List.range z26->(1=1/\i<1/\AV.str (wbh z11.1)=z11.1/\AV.agg [.str (wbh (was z7 0)),.q (wao (was z7 (0+1))),.q (wao (was z7 (0+1+1))),.q (wao (was z7 (0+1+1+1))),.view (vwS z21) (vwN z21) (vwF z21),.view (vwS z18) (vwN z18) (vwF z18),.view (vwS z15) (vwN z15) (vwF z15)]=z11.2)/\z24/\((1<=1/\1=1)/\1=1/\1<=9223372036854775807/\16<=140737488355328)/\1=1/\(List.erase (List.range z26) i=[]->(∀(i:Nat),i<1->true=true)/\(9=9/\false=false/\[AV.str (List.getD [wbh z11.1] 0 [])]=[.str [(49:UInt8),58,97,44,49,44,50,44,48,44,49,44,49,58,111,44,56,58,57,54,51,56,53,48,55,52,44,53,44,50,44,51,48,48,44,48,44]]/\List.map (λ(p:AV×AV)=>(AV.rn z14 p.1,AV.rn z14 p.2)) z0=[(.str aT,.agg (wc8 aF))])/\(∀(i:Nat),i<1->true=true)/\((0:Int)<=0/\(0:Int)<(↑1:Int))/\(0<1/\1=1)/\(wb9 z10 z2/\AV.agg [.str (wbh (was z1 0)),.q (wao (was z1 (0+1))),.q (wao (was z1 (0+1+1))),.q (wao (was z1 (0+1+1+1))),.view 15 0 (vwF z22),.view 5 1 (vwF z19),.view 5 0 (vwF z16)]= .agg z6)/\(vwF z22=wad (atM [])/\vwF z19=wae (atR [aR])/\vwF z16=wag (atT []))/\(7<=16777216/\7=7/\1<=9223372036854775807)/\((1<=1/\7=7)/\7=7/\1<=9223372036854775807/\112<=140737488355328)/\inR .i64 ((0:Int)+1)/\(∀(i:Nat),i<1->nrefL (wap 7 (.str [(97:UInt8)]:: .q 1:: .q 10:: .q 2:: .view 15 0 (vwF z22):: .view 5 1 (vwF z19):: .view 5 0 (vwF z16)::List.append [] wdj) i)=true)/\∃(O':oL7),wai [(0,.row 49 7 1 (wap 7 (.str [(97:UInt8)]:: .q 1:: .q 10:: .q 2:: .view 15 0 (vwF (was z4 (0+1+1+1+1))):: .view 5 1 (vwF (was z4 (0+1+1+1+1+1))):: .view 5 0 (vwF (was z4 (0+1+1+1+1+1+1)))::List.append [] wdj)) false)] O'/\R (.own 0 1) O')/\∀(i_1:Nat),letI z12:=List.getD z0 i_1 (.any,.any);letI z5:=z12.2;letI z23:=was z5 (0+1+1+1+1);letI z20:=was z5 (0+1+1+1+1+1);letI z17:=was z5 (0+1+1+1+1+1+1);i_1∈List.erase (List.range z26) i->(1=1/\i_1<1/\AV.str (wbh z12.1)=z12.1/\AV.agg [.str (wbh (was z5 0)),.q (wao (was z5 (0+1))),.q (wao (was z5 (0+1+1))),.q (wao (was z5 (0+1+1+1))),.view (vwS z23) (vwN z23) (vwF z23),.view (vwS z20) (vwN z20) (vwF z20),.view (vwS z17) (vwN z17) (vwF z17)]=z12.2)/\z24/\((1<=1/\1=1)/\1<=1/\1=1/\9=9/\1=1/\2<=9223372036854775807/\32<=140737488355328)/\False):=by kernel_rfl
theorem aF_sm:aF.Sm:=⟨by decide,⟨by decide,λm hm=>(by cases hm)⟩,⟨by decide,λr hr=>by
 rw[List.mem_singleton.1 hr];decide⟩,⟨by decide,λt ht=>(by cases ht)⟩⟩
theorem aF_vin:vinF aF=0:=by rfl
theorem vinA_ok(hP:C.P=Tryz.prog)(hL:∀w,C.laid w->LaidW w):wah C 29 wmj:=by
 rintro args objs U Os vc h hvc;unfold wmj at h;split at h<;>cases h;rename_i fm fr ft;obtain⟨rfl,rfl,rfl⟩:=hvc;have hh:=vin_ok hP hL [.agg (wc8 aF)] [] _ _ _ rfl ⟨whm aF,by rw[wgp];exact aF_sm⟩;rw[wgp,aF_vin] at hh;exact hh
theorem wal.outEq{g:FuncId}{args:List AV}{objs:List AObj}{R:AV->List (Nat×AObj)->Prop}{U:AV}{t sz n:Nat}{f':Nat->List AV}{fr:Bool}{l:List (Nat×AObj)}
  (h:wal C g args objs λu O=>u=U/\∃f,(∀i,i<n->f' i=f i)/\O=(0,.row t sz n f fr)::l) (hR:R U ((0,.row t sz n f' fr)::l)):wal C g args objs R:=by
 have _:C.Loose:=inferInstance;refine⟨h.1,λE bs w cargs h1 h2 h3 h4 h5 h6 h7=>(h.2 E bs w cargs h1 h2 h3 h4 h5 h6 h7).mono ?_⟩;rintro e w' ⟨v,u,O',bs',r1,⟨rfl,f,hf,rfl⟩,r3,r4,r5⟩;obtain⟨q1,q2⟩:=r3.rowEq (r0:=0) (f':=f') rfl hf;have e:up (lk ((0,.row t sz n f fr)::l)) 0 (.row t sz n f' fr)=lk ((0,.row t sz n f' fr)::l):=by
  funext k;unfold up;rw[wax,wax]
  by_cases q:0=k
  .simp[q]
  .simp[q]
 rw[e] at q1 q2;refine⟨v,_,_,bs',r1,hR,q2,by rw[q1];exact r4,λr hr=>⟨?_,(r5 r hr).2⟩⟩;have:=(r5 r hr).1;rw[wax,if_neg (show ¬ 0=r by omega)] at this ⊢;exact this
theorem w0p(hP:C.P=Tryz.prog):wa4 C 91 wou:=by
 rintro args objs R h;unfold wou at h;split at h
 .rename_i t f fr ct es;obtain⟨⟨rfl,rfl,hf,rfl⟩,hR⟩:=h;refine wal.rowEq 0 (t:=9) (sz:=1) (n:=1) (f:=f) (fr:=false) (f':=wa6 (λ_=>aT)) rfl (up1 hf.symm) ?_;refine wal.outEq (U:=.tuple []) (f':=λ_=>[.str aT]) ?_ hR;refine w0n hP _ _ _ ⟨rfl,rfl,rfl,by omega,rfl,wsy (K:=[aT]) (F:=λ_=>aF) (List.nodup_cons.2 ⟨List.not_mem_nil,List.nodup_nil⟩),w69 (λ_=>aF) [aT],λp hp=>?_,λh1 hp _=>?_⟩
  .rw[List.mem_singleton.1 hp];exact⟨rfl,rfl⟩
  .have e:h1 0=aT:=by
    have hm:h1 0∈lst (stOf (wa6 λ_=>aT)) 1:=hp.mem_iff.1 (List.mem_map.2 ⟨0,List.mem_range.2 (by omega),rfl⟩);exact List.mem_singleton.1 hm
   exact⟨rfl,wa6 h1,up1 (by show [AV.str aT]=[AV.str (h1 0)];rw[e]),rfl⟩
 .exact h.elim
theorem cpdA_ok(hP:C.P=Tryz.prog):wah C 96 wn8:=by
 rintro args objs U Os vc h hvc;unfold wn8 at h;split at h<;>cases h;rename_i fm fr ft;obtain⟨rfl,rfl,rfl⟩:=hvc;exact cpd_at hP aF (by decide) (by decide) (by decide) (λt ht=>by cases ht)
theorem wk8:wb9 .string []:=wsy (F:=λ_=>aF) (K:=[]) List.nodup_nil
theorem wvw(hP:C.P=Tryz.prog)(hL:∀w,C.laid w->LaidW w):wah C 39 wh4:=by
 rintro args objs U Os vc h hvc;unfold wh4 at h;split at h<;>cases h;subst hvc;refine wa4.wpL (prg hP) [(29,.det wmj),(33,.det wh8),(91,.rel wou),(96,.det wn8)] [] 2 (.cons (vinA_ok hP hL) (.cons (wyo hP hL) (.cons (w0p hP) (.cons (cpdA_ok hP) .nil)))) (hP ▸ Tryz.func39) rfl rfl rfl [] (by kernel_rfl) trivial ?_;rw[nf_nrmA];refine⟨⟨by omega,by omega,rfl⟩,⟨rfl,rfl,rfl⟩,rfl,⟨wk8,rfl⟩,wk8,by simp only[inR];omega,rfl,λh=>(by cases h),λi hi=>?_⟩;obtain rfl:i=0:=by
  have:=List.mem_range.1 hi;have e:∀(k v:AV),(mset [] k v).length=1:=λ_ _=>rfl;rw[e] at this;omega
 refine⟨⟨rfl,by omega,rfl,rfl⟩,⟨by omega,rfl,by omega⟩,⟨⟨by omega,rfl⟩,rfl,by omega,by omega⟩,rfl,λ_=>⟨λ_ _=>rfl,⟨rfl,rfl,rfl,rfl⟩,λ_ _=>rfl,⟨by omega,by omega⟩,⟨by omega,rfl⟩,⟨?_,rfl⟩,⟨rfl,rfl,rfl⟩,⟨by omega,rfl,by omega⟩,⟨⟨by omega,rfl⟩,rfl,by omega,by omega⟩,by simp only[inR];omega,?_⟩,?_⟩
 .exact wsy (K:=[aT]) (F:=λ_=>aF) (List.nodup_cons.2 ⟨List.not_mem_nil,List.nodup_nil⟩)
 .exact⟨up1 rfl,[(0,.row 49 7 1 (waf (λ_=>aF)) false)],⟨⟨rfl,rfl,rfl,rfl,rfl,up1 rfl⟩,trivial⟩,rfl,rfl⟩
 .exact λj hj=>absurd (show j∈([]:List Nat) from hj) List.not_mem_nil
theorem nf_clD(F:FL)(d:Int)(R:oR7):wpFn te [] [] 0 Tryz.f143 [.agg [.str F.id,.q F.ver,.q F.day,.q F.kind,.view 15 F.ms.length (wad (atM F.ms)),.view 5 F.rs.length (wae (atR F.rs)),.view 5 F.ts.length (wag (atT F.ts))],.ptr 0 0] [.cells [.q d] 3] R=(R (.bool (decide (d<F.day))) [(0,.cells [.q d] 3)]):=by kernel_rfl
theorem nf_clV(F:FL)(es:List (AV×AV))(R:oR7):wpFn te [] [] 0 Tryz.f101 [.agg [.str F.id,.q F.ver,.q F.day,.q F.kind,.view 15 F.ms.length (wad (atM F.ms)),.view 5 F.rs.length (wae (atR F.rs)),.view 5 F.ts.length (wag (atT F.ts))],.ptr 0 0] [.cells [.map 1] 132,.amap es] R=(letI z2:=Option.getD (mget es (.str F.id)) (zvA (.q 0));letI z1:=(ren (List.length [AObj.cells [.map 1] (132:TypeId),.amap es]) []);letI z0:=([(0,.cells [.map 1] 132),(1,.amap (List.map (λ(p:AV×AV)=>(AV.rn z1 p.1,AV.rn z1 p.2)) es))]:oL7);wab (!decide (F.kind=1)) ((wb9 (TI.desc (tiO Tryz.prog false 9)) es/\.q (wao z2)=Option.getD (mget es (.str F.id)) (zvA (.q 0)))/\R (.bool (decide (F.ver<wao z2))) z0) (R (.bool false) z0)):=by kernel_rfl
theorem entI_rn(σ:Nat->Option Nat)(K:List (List UInt8))(v:List UInt8->Int):(entI K v).map (λp=>(AV.rn σ p.1,AV.rn σ p.2))=entI K v:=by
 unfold entI;rw[List.map_map];rfl
theorem w7p{K:List (List UInt8)}{v:List UInt8->Int}(h:K.Nodup):wb9 .string (entI K v):=by
 refine⟨List.all_eq_true.2 λp hp=>?_,?_⟩
 .obtain⟨r,_,rfl⟩:=List.mem_map.1 hp;rfl
 .unfold entI;rw[List.map_map];refine List.pairwise_map.2 (h.imp λ{a b} hab he=>hab ?_);have he:AV.str a=AV.str b:=he;injection he
theorem wwj(v:List UInt8->Int)(x:List UInt8):∀K,Option.getD (mget (entI K v) (.str x)) (.q 0)= .q (if x∈K then v x else 0)
 |[]=>rfl
 |t::K=>by
  show Option.getD (match keq (.str t) (.str x) with | true=>some (AV.q (v t)) | false=>mget (entI K v) (.str x)) (.q 0)=_
  have ih:=wwj v x K;rw[ww5]
  by_cases h:t=x
  .subst h;simp
  .have h':¬ x=t:=λe=>h e.symm;rw[decide_eq_false h];simp only[List.mem_cons,h',false_or];exact ih
theorem clD_ok(hP:C.P=Tryz.prog):wah C 143 wig:=by
 have _:C.Loose:=inferInstance;rintro args objs U Os vc h hvc;unfold wig at h;split at h<;>cases h;rename_i id ver day kind nm fm nr fr nt ft d t2;obtain⟨⟨hc,hs⟩,rfl,hE⟩:=hvc;have l1:(lst (mgOf fm) nm).length=nm:=by simp[lst]
 have l2:(lst (rwOf fr) nr).length=nr:=by simp[lst]
 have l3:(lst (rtOf ft) nt).length=nt:=by simp[lst]
 obtain⟨c1,c2,c3⟩:=hc;unfold flV at hs ⊢;generalize lst (mgOf fm) nm=ms at *;generalize lst (rwOf fr) nr=rs at *;generalize lst (rtOf ft) nt=ts at *;subst l1;subst l2;subst l3;subst c1;subst c2;subst c3;refine wah.wp0 (prg hP) [] 0 .nil (hP ▸ Tryz.func143) rfl rfl rfl ?_;refine(nf_clD ⟨id,ver,day,kind,ms,rs,ts⟩ d _).mpr ?_;exact⟨rfl,rfl⟩
theorem clV_ok(hP:C.P=Tryz.prog):wah C 101 woc:=by
 have _:C.Loose:=inferInstance;rintro args objs U Os vc h hvc;unfold woc at h;split at h<;>cases h;rename_i id ver day kind nm fm nr fr nt ft es t2;obtain⟨⟨hc,hs⟩,rfl,hE⟩:=hvc;have l1:(lst (mgOf fm) nm).length=nm:=by simp[lst]
 have l2:(lst (rwOf fr) nr).length=nr:=by simp[lst]
 have l3:(lst (rtOf ft) nt).length=nt:=by simp[lst]
 obtain⟨c1,c2,c3⟩:=hc;unfold flV at hs ⊢;generalize lst (mgOf fm) nm=ms at *;generalize lst (rwOf fr) nr=rs at *;generalize lst (rtOf ft) nt=ts at *;subst l1;subst l2;subst l3;subst c1;subst c2;subst c3;obtain⟨P,v,rfl,hnd⟩:=hE;refine wah.wp0 (prg hP) [] 0 .nil (hP ▸ Tryz.func101) rfl rfl rfl ?_;refine(nf_clV ⟨id,ver,day,kind,ms,rs,ts⟩ (entI P v) _).mpr ?_
 repeat rw[entI_rn]
 have hk:wb9 .string (entI P v):=w7p hnd;have hm:=wwj v id P;have hq:qV (entI P v) ⟨id,ver,day,kind,ms,rs,ts⟩=(!decide (kind=1) && decide (ver<wao ((mget (entI P v) (.str id)).getD (.q 0)))):=rfl;rw[hq];refine wa7 (λh1=>⟨⟨hk,?_⟩,?_,rfl⟩) (λh1=>⟨?_,rfl⟩)
 .show AV.q (wao (Option.getD (mget (entI P v) (.str id)) (.q 0)))=Option.getD (mget (entI P v) (.str id)) (.q 0);rw[hm]
  first | done | rfl
 .have h1:¬ kind=1:=h1;rw[decide_eq_false h1];rfl
 .have h1:kind=1:=h1;rw[decide_eq_true h1];rfl
end Go.Eng
namespace Go.Eng
open Go.RowKit
def allH(A:List Nat):List Nat->Bool
 |[]=>true
 |i::l=>match hasN A i with
  |true=>allH A l
  |false=>false
theorem wtl{A:List Nat}:∀ {l:List Nat},allH A l=true↔∀i∈l,i∈A
 |[]=>by simp[allH]
 |i::l=>by
  unfold allH;have ih:=wtl (A:=A) (l:=l)
  cases h:hasN A i with
  |true=>
   dsimp only
   rw[ih]
   constructor
   .intro h' j hj
    rcases List.mem_cons.1 hj with rfl | hj
    .exact(wbl _ _).1 h
    .exact h' j hj
   .exact λh' j hj=>h' j (List.mem_cons_of_mem _ hj)
  |false=>
   refine⟨λh=>(by cases h),λh'=>?_⟩;rw[(wbl _ _).2 (h' i (List.mem_cons_self ..))] at h;cases h
def wji(T:List (Nat×AV)):List Nat->List (Nat×AV)
 |[]=>[]
 |j::F=>match lk T j with
  |some u=>(j,u)::wji T F
  |none=>wji T F
theorem wsb{T:List (Nat×AV)}:∀ {F:List Nat} {j:Nat} {u:AV},lk (wji T F) j=some u->lk T j=some u
 |[],j,u,h=>by cases h
 |i::F,j,u,h=>by
  unfold wji at h;split at h
  .rename_i v hv;rw[wax] at h
   by_cases e:i=j
   .subst e;rw[if_pos rfl] at h;rw[hv,h]
   .rw[if_neg e] at h;exact wsb h
  .exact wsb h
def weu(G:Env)(opl:List Oper)(A:List Nat)(K:KT):Nat->List Nat->KT
 |0,_,_,_,_=>False
 |fuel+1,done,T,O,nx=>match Nat.beq done.length A.length with
  |true=>match allH A done with
   |true=>match allH done A with
    |true=>K T O nx
    |false=>False
   |false=>False
  |false=>match rdyL done 0 opl with
   |[]=>False
   |p0::l=>allP (λp:Nat×Oper=>match p.2.guard with
    |none=>wp1 G p.2 T O nx (weu G opl A K fuel (p.1::done))
    |some _=>False) (p0::l)
theorem RepS.sub{C:Ctx}{E:Ent}{N:Nat}{T T':List (Nat×AV)}{O:List (Nat×AObj)}{nx:Nat}{bs:Nat->Option Hd}{a:Act}{w:World}(h:RepS C E N ⟨T,O,nx,[]⟩ bs a w)(hs:∀j u,lk T' j=some u->lk T j=some u):RepS C E N ⟨T',O,nx,[]⟩ bs a w:=
 ⟨⟨⟨h.1.1.1,h.1.1.2.1,λi u hu=>h.1.1.2.2 i u (hs i u hu)⟩,h.1.2⟩,h.2⟩
theorem wtw{C:Ctx}{G:Env}(hG:EnvOK C G){m:Nat}{opl:List Oper}{A:List Nat}{K:KT}{Q:Exit->St->Prop}{E:Ent}(hE:E.m=m)
  (leaf:∀(listed:Array Bool) (T:List (Nat×AV)) (O:List (Nat×AObj)) (nx:Nat) (bs:Nat->Option Hd) (a:Act) (w:World),listed.size=opl.length->(∀i,listed.getD i false=true↔i∈A)->K T O nx->RepS C E G.N ⟨T,O,nx,[]⟩ bs a w->
   wpAny C.P .any opl.toArray (QC C E G.N Q) (opl.length - A.length) listed a w):∀(fuel:Nat) (done:List Nat) (listed:Array Bool) (T:List (Nat×AV)) (O:List (Nat×AObj)) (nx:Nat) (bs:Nat->Option Hd) (a:Act) (w:World),
  fuel+done.length=opl.length->listed.size=opl.length->(∀i,listed.getD i false=true↔i∈done)->weu G opl A K fuel done T O nx->RepS C E G.N ⟨T,O,nx,[]⟩ bs a w->wpAny C.P .any opl.toArray (QC C E G.N Q) fuel listed a w
 |0,done,listed,T,O,nx,bs,a,w,hf,hsz,hl,h,hr=>by
  unfold weu at h;exact h.elim
 |fuel+1,done,listed,T,O,nx,bs,a,w,hf,hsz,hl,h,hr=>by
  unfold weu at h;split at h
  .rename_i hlen;have hlen:=Nat.eq_of_beq_eq_true hlen;split at h
   .rename_i h1;split at h
    .rename_i h2;have e:fuel+1=opl.length - A.length:=by omega
     rw[e];exact leaf listed T O nx bs a w hsz (λi=>(hl i).trans ⟨λq=>wtl.1 h1 i q,λq=>wtl.1 h2 i q⟩) h hr
    .exact h.elim
   .exact h.elim
  .split at h
   .exact h.elim
   .rename_i p0 l hr0;unfold wpAny;refine⟨λq=>?_,λi hi=>?_⟩
    .obtain⟨i0,o0⟩:=p0;have hm:(i0,o0)∈rdyL done 0 opl:=by rw[hr0];exact List.mem_cons_self ..
     obtain⟨i',h1,h2,_⟩:=wi3.1 hm;obtain rfl:i0=i':=by omega
     have:=(whd hsz hl i0).2 ⟨o0,h2,hm⟩;rw[q] at this;cases this
    obtain⟨o,ho,hm⟩:=(whd hsz hl i).1 hi;rw[hr0] at hm;have hp:=wtj h _ hm;dsimp only at hp;have hilt:i<listed.size:=by rw[hsz];exact(List.getElem?_eq_some_iff.1 ho).1
    have hsz':(listed.setIfInBounds i true).size=opl.length:=by simp[hsz]
    have hl':∀j,(listed.setIfInBounds i true).getD j false=true↔j∈i::done:=λj=>by
     by_cases e:i=j
     .subst e;simp[Array.getD,hilt]
     .rw[getD_set_ne _ e,hl,List.mem_cons];exact⟨.inr,λh=>h.resolve_left λq=>e q.symm⟩
    split at hp
    .rename_i hg;have:=wj6 (m:=m) (ops:=opl.toArray) (rest:=[]) (Q:=whf (λs=>weu G opl A K fuel (i::done) s.T s.O s.nx) Q) hG hg hp (λT' O' nx' hK=>by
      intro E' hE' bs' a' w' hr';exact⟨⟨T',O',nx',[]⟩,bs',hK,hr'⟩) E hE bs a w hr
     have fin:∀a' w',QC C E G.N (whf (λs=>weu G opl A K fuel (i::done) s.T s.O s.nx) Q) .normal a' w'->wpAny C.P .any opl.toArray (QC C E G.N Q) fuel (listed.setIfInBounds i true) a' w':=by
      rintro a' w' ⟨⟨T',O',nx',d'⟩,bs',hK,hr'⟩;exact wtw hG hE leaf fuel (i::done) _ T' O' nx' bs' a' w' (by rw[List.length_cons];omega) hsz' hl' hK hr'
     have other:∀e a' w',e≠Exit.normal->QC C E G.N (whf (λs=>weu G opl A K fuel (i::done) s.T s.O s.nx) Q) e a' w'->QC C E G.N Q e a' w':=by
      rintro e a' w' hne ⟨s,bs',hs,hr'⟩;refine⟨s,bs',?_,hr'⟩
      cases e with
      |normal=>exact absurd rfl hne
      |_=>exact hs
     unfold wpOp;have ho':opl.toArray[i]?=some o:=by simpa using ho
     rw[ho'];unfold wpList at this;dsimp only
     split
     .rename_i hw;rw[if_pos hw] at this
      rcases this with h | ⟨h1,a',w',h2⟩
      .exact .inl (wts fin other h)
      .exact .inr ⟨h1,a',w',other _ _ _ (by simp) h2⟩
     .rename_i hw;rw[if_neg hw] at this;exact fin _ _ this
    .exact hp.elim
def cutIs(F:List Nat)(SA:St):KT:=λT O nx=>wji T F=SA.T/\O=SA.O/\nx=SA.nx
def rgA(G:Env)(x:Code)(A F:List Nat)(SA s:St):Prop:=match x with
 |.region _ ops true=>weu G ops.toList A (cutIs F SA) ops.toList.length [] s.T s.O s.nx
 |_=>False
def rgB(G:Env)(x:Code)(A Fe:List Nat)(Q:Exit->St->Prop)(SA:St):Prop:=match x with
 |.region _ ops true=>wet G ops.toList (Eng.canQ G.te G.m Fe [] Q .normal) (ops.toList.length - A.length) A SA.T SA.O SA.nx
 |_=>False
theorem AWP.cut{C:Ctx}{G:Env}(hG:EnvOK C G){m id:Nat}{opl:List Oper}{A F:List Nat}{SA:St}{Q:Exit->St->Prop}{T0:List (Nat×AV)}{O0:List (Nat×AObj)}{nx:Nat}{dec:List Nat}
  (h:weu G opl A (cutIs F SA) opl.length [] T0 O0 nx) (h2:wet G opl (Q .normal) (opl.length - A.length) A SA.T SA.O SA.nx):AWP C m G.N (.region id opl.toArray true) Q ⟨T0,O0,nx,dec⟩:=by
 intro E hE bs a w hr;have hS:Step w (MB E (lk O0) bs) bs { w with drawn:=w.drawn+1 } (MB E (lk O0) bs) bs/\WRep C E (lk O0) bs { w with drawn:=w.drawn+1 }:=by
  refine hr.1.2.next (λ_=>False) (λ_ _ h=>h) (λ_ _ _ h=>.inl h) (λ_ h=>h.elim) (λ_ _ _=>rfl) (lR7 _) (λ_ h=>.inl h) (λ_ _ _ h=>.inl ⟨h,λ_ _ _ h=>h⟩) hr.1.2.sep ?_ rfl ⟨rfl,λ_=>Nat.le_succ _⟩ rfl;intro r t sz n f b c ho hb;have:=hr.1.2.frz r t sz n f b c ho hb;exact⟨λh=>this (.inr h),λh=>this (.inl h)⟩
 refine wp_region_any C.mixed (wtw hG hE (λlisted T O nx' bs' a' w' hsz hl hK hr'=>?_) _ [] _ T0 O0 nx bs a _ (by simp) (by simp) (λi=>by simp[Array.getD]) (by simpa using h) ⟨⟨hr.1.1.step hS.1,hS.2⟩,hr.2.1,hr.2.2⟩);obtain⟨k1,k2,k3⟩:=hK;subst k2;subst k3;refine wtu hG hE _ A listed SA.T SA.O SA.nx bs' a' w' hsz hl h2 ?_;rw[← k1];exact hr'.sub λj u hu=>wsb hu
theorem waj.cut{C:Ctx}{te:TE}(hte:Prg C te){m N:Nat}{x:Code}{s S SA:St}{Q:Exit->St->Prop}(calls:List (Nat×CSpec))(fuel:Nat)(hc:wde C calls)(F Fe A FA:List Nat)
  (h0:canonIs te m F s S) (h:rgA ⟨te,calls,[],m,N,fuel⟩ x A FA SA S) (h2:rgB ⟨te,calls,[],m,N,fuel⟩ x A Fe Q SA) (hS:wch S.O True):AWP C m N x Q s:=by
 have hG:EnvOK C ⟨te,calls,[],m,N,fuel⟩:=⟨hte.ok,hte.one,hc⟩;have h1:AWP C m N x (Eng.canQ te m Fe [] Q) S:=by
  unfold rgA at h;split at h
  .rename_i id ops;have:=AWP.cut (m:=m) (id:=id) (dec:=S.dec) hG h h2;simpa using this
  .exact h.elim
 exact AWP.canonIs F h0 h1.canQ hS
end Go.Eng
namespace Go.Eng
open Go.Proofs Go.RowKit
variable {C:Ctx} [C.Loose]
set_option maxRecDepth 20000
theorem nf_s6a(u4 u5 u6 u17 u18 u19 c2 c3 c4 c5 c6:AV)(id:List UInt8)(ver:Int)(es:List (AV×AV))(r:AObj):letI z7:=([(4,u4),(5,u5),(6,u6),(7,.map 1),(9,.ptr 2 0),(17,u17),(18,u18),(19,u19)]:tL7);letI z2:=([(0,r),(1,.amap es),(2,.cells [.str id,.q ver,c2,c3,c4,c5,c6] 49)]:oL7);letI z3:=St.mk z7 z2 3 [];letI z1:=([(4,u4),(5,u5),(6,u6),(7,.map 1),(9,.ptr 2 0),(17,u17),(18,u18),(19,u19),(23,.map 1),(28,.agg [.str id,.q ver])]:tL7);letI z6:=St.mk z1 z2 3 [];letI z0:=(z1=z1/\z2=z2/\St.nx z3=St.nx z6:Prop);letI z5:=z0/\z1=z1/\z2=z2/\St.nx z3=St.nx z6;letI z4:=z0/\z0/\z1=z1/\z2=z2/\St.nx z3=St.nx z6;rgA ⟨te,[],[],0,59,0⟩ (regC Tryz.f99 6) [0,1,2,3,4,5] [4,5,6,7,9,17,18,19,23,28] ⟨z1,z2,3,[]⟩ ⟨z7,z2,3,[]⟩=((z4/\z5/\z1=z1/\z2=z2/\St.nx z3=St.nx z6)/\(z4/\(z0/\z0/\z0/\z1=z1/\z2=z2/\St.nx z3=St.nx z6)/\z5/\z4/\z0/\z0/\z1=z1/\z2=z2/\St.nx z3=St.nx z6)/\(z5/\z1=z1/\z2=z2/\St.nx z3=St.nx z6)/\(z5/\z4/\z0/\z0/\z1=z1/\z2=z2/\St.nx z3=St.nx z6)/\z0/\z0/\z0/\z1=z1/\z2=z2/\St.nx z3=St.nx z6):=by kernel_rfl
theorem nf_s6(E:List ((List UInt8×Int)×Int))(F:FL)(L:List FL)(k:Nat)(Q:eR7):rgB ⟨te,[],[],0,59,0⟩ (regC Tryz.f99 6) [0,1,2,3,4,5] [4,5,6,7,9,17,18,19] Q (S_s6b E F L k)=(letI z17:=L.length;letI z15:=zvA (.q 0);letI z14:=ren 0 [(0,0),(1,1),(2,2)];letI z9:=(∀(i:Nat),i<L.length->true=true:Prop);letI z7:=([.str F.id,.q F.ver,.q F.day,.q F.kind,.view 15 F.ms.length (wad (atM F.ms)),.view 5 F.rs.length (wae (atR F.rs)),.view 5 F.ts.length (wag (atT F.ts))]:List AV);letI z3:=([(4,.nil),(5,.nil),(6,.own 0 z17),(7,.map 1),(9,.ptr 2 0),(17,.own 0 z17),(18,.q (z17:Int)),(19,.q (k:Int))]:tL7);letI z0:=([.str F.id,.q F.ver]:List AV);letI z13:=mget (entM E) (.agg z0);letI z11:=(↑(midx (entM E) (.agg z0)):Int);letI z10:=(wao (Option.getD z13 z15)+1);letI z6:=wbu te 173 (entM E)/\.q (wao (Option.getD z13 (.q 0)))=Option.getD z13 (.q 0);letI z5:=ment (.q 0) (entM E) (.agg z0);letI z18:=List.getD z5 z11.toNat (.any,.any);letI z8:=Option.getD (mget z5 (.agg z0)) z15;letI z16:=(wao z8+1);letI z12:=wbu te 173 z5/\.q (wao z8)=Option.getD (mget z5 (.agg z0)) z15;letI z4:=((0:Int)<=z11/\z11<(z5.length:Int):Prop);letI z2:=([(0,.row 49 7 z17 (waf (atF L)) false),(1,.amap (List.map (λ(p:AV×AV)=>(AV.rn z14 p.1,AV.rn z14 p.2)) (List.set z5 z11.toNat (z18.1,.q z10)))),(2,.cells z7 49)]:oL7);letI z1:=([(0,.row 49 7 z17 (waf (atF L)) false),(1,.amap (List.map (λ(p:AV×AV)=>(AV.rn z14 p.1,AV.rn z14 p.2)) (List.set z5 z11.toNat (z18.1,.q z16)))),(2,.cells z7 49)]:oL7);((wbu te 173 (entM E)/\.q (wao (Option.getD z13 z15))=Option.getD z13 z15)/\(inR .i64 z10/\z6/\z4/\z9/\∃(O':oL7),wai z2 O'/\Q .normal (St.mk z3 O' 3 []))/\z6/\(inR .i64 z10/\z4/\z9/\∃(O':oL7),wai z2 O'/\Q .normal (St.mk z3 O' 3 []))/\inR .i64 z10/\z4/\z9/\∃(O':oL7),wai z2 O'/\Q .normal (St.mk z3 O' 3 []))/\z6/\(z12/\(inR .i64 z16/\z4/\z9/\∃(O':oL7),wai z1 O'/\Q .normal (St.mk z3 O' 3 []))/\inR .i64 z16/\z4/\z9/\∃(O':oL7),wai z1 O'/\Q .normal (St.mk z3 O' 3 []))/\z12/\inR .i64 z16/\z4/\z9/\∃(O':oL7),wai z1 O'/\Q .normal (St.mk z3 O' 3 [])):=by kernel_rfl
theorem wsz{L:List ((List UInt8×Int)×Int)}(h:(L.map Prod.fst).Nodup):wbu te 173 (entM L):=by
 refine⟨List.all_eq_true.2 λp hp=>?_,(w7n h).2⟩;obtain⟨r,_,rfl⟩:=List.mem_map.1 hp;have:∀(a:List UInt8) (b:Int),keyA te 173 (.agg [.str a,.q b])=true:=λa b=>by kernel_rfl
 exact this _ _
theorem w6k{ES:List (AV×AV)}{i:Nat}{v:AV}(hi:i<ES.length)(h:wbu te 173 (ES.set i ((ES.getD i (.any,.any)).1,v))):wbu te 173 ES:=by
 have e:(ES.set i ((ES.getD i (.any,.any)).1,v)).map Prod.fst=ES.map Prod.fst:=by
  apply List.ext_getElem
  .simp
  .intro j h1 h2;simp only[List.getElem_map,List.getElem_set];split
   .rename_i e;subst e;simp[hi]
   .rfl
 obtain⟨h1,h2⟩:=h;rw[e] at h2;refine⟨?_,h2⟩;have f:∀l:List (AV×AV),(l.all λp=>keyA te 173 p.1)=(l.map Prod.fst).all λk=>keyA te 173 k:=λl=>by rw[List.all_map];rfl
 rw[f] at h1 ⊢;rw[e] at h1;exact h1
theorem s6_ok(hP:C.P=Tryz.prog)(E:List ((List UInt8×Int)×Int))(F:FL)(L:List FL)(k:Nat):waj C 0 59 (regC Tryz.f99 6) (L_s6 E F L k):=by
 have _:C.Loose:=inferInstance;rintro st Q ⟨h0,hnd,hin,hQ⟩;refine waj.cut (SA:=S_s6b E F L k) (prg hP) [] 0 .nil [4,5,6,7,9,17,18,19] [4,5,6,7,9,17,18,19] [0,1,2,3,4,5] [4,5,6,7,9,17,18,19,23,28] h0 ?_ ?_ ⟨λ_ _=>rfl,trivial⟩
 .refine(nf_s6a .nil .nil (.own 0 L.length) (.own 0 L.length) (.q L.length) (.q k) (.q F.day) (.q F.kind) (.view 15 F.ms.length (wad (atM F.ms))) (.view 5 F.rs.length (wae (atR F.rs))) (.view 5 F.ts.length (wag (atT F.ts))) F.id F.ver (entM E) (.row 49 7 L.length (waf (atF L)) false)).mpr ?_
  repeat' first | exact rfl | refine And.intro ?_ ?_
 rw[nf_s6];have zz:zvA (.q 0)= .q 0:=rfl;have F1:Option.getD (mget (entM E) (.agg [.str F.id,.q F.ver])) (.q 0)= .q (getC E (mk2 (edM F))):=wwi (mk2 (edM F)) E;obtain⟨F3,F4,F5⟩:=ment_K (mk2 (edM F)) E;have K1:=wsz hnd;have K2:wbu te 173 (ment (.q 0) (entM E) (keyK (mk2 (edM F)))):=w6k F4 (F5.symm ▸ wsz (wzf (mk2 (edM F)) hnd));change Option.getD (mget (ment (.q 0) (entM E) (.agg [.str F.id,.q F.ver])) (.agg [.str F.id,.q F.ver])) (.q 0)= .q (getC E (mk2 (edM F))) at F3;change midx (entM E) (.agg [.str F.id,.q F.ver])<(ment (.q 0) (entM E) (.agg [.str F.id,.q F.ver])).length at F4;change (ment (.q 0) (entM E) (.agg [.str F.id,.q F.ver])).set (midx (entM E) (.agg [.str F.id,.q F.ver])) (((ment (.q 0) (entM E) (.agg [.str F.id,.q F.ver])).getD (midx (entM E) (.agg [.str F.id,.q F.ver])) (.any,.any)).1,.q (getC E (mk2 (edM F))+1))=entM (addC E (mk2 (edM F))) at F5;change wbu te 173 (ment (.q 0) (entM E) (.agg [.str F.id,.q F.ver])) at K2;have F6:(0:Int)<=(midx (entM E) (.agg [.str F.id,.q F.ver]):Int)/\(midx (entM E) (.agg [.str F.id,.q F.ver]):Int)<((ment (.q 0) (entM E) (.agg [.str F.id,.q F.ver])).length:Int):=by omega
 simp only[zz,F1,F3,wao,tN7,F5,entM_rn];have leaf:∃O',wai (S_s6 (addC E (mk2 (edM F))) F L k).O O'/\Q .normal ⟨(S_s6 (addC E (mk2 (edM F))) F L k).T,O',3,[]⟩:=⟨_,wau _,hQ⟩;have all:∀i,i<L.length->True:=λ_ _=>trivial;have K1:=(and_true (wbu te 173 (entM E))).symm ▸ K1
 repeat' first | exact leaf | exact trivial | exact K1 | exact K2 | exact⟨K2,trivial⟩ | exact hin | exact F6 | exact all | refine And.intro ?_ ?_
theorem nf_splA(E:List ((List UInt8×Int)×Int))(R:oR7):wpFn te [(39,.det wh4),(100,.rel wil)] [(1006,L_s6 E aF [aF] 0)] 2 Tryz.f99 [.view 7 1 (waf (λ_=>aF)),.q 10] [] R=(letI z8:=(waf λ(_x:Nat)=>aF);letI z7:=((0:Int)<=0/\(0:Int)<(↑1:Int):Prop);letI z6:=(7<=16777216/\7=7/\1<=9223372036854775807:Prop);letI z5:=(∀(i:Nat),i<1->true=true:Prop);letI z4:=((1<=1/\7=7)/\7=7/\1<=9223372036854775807/\112<=140737488355328:Prop);letI z3:=(mget (entM (addC E (mk2 (edM aF)))) (.agg [.str [(97:UInt8)],.q (atF [aF] 0).ver]));letI z2:=([.str [(97:UInt8)],.q aF.ver,.q aF.day,.q aF.kind,.view 15 0 (wad (atM aF.ms)),.view 5 1 (wae (atR aF.rs)),.view 5 0 (wag (atT aF.ts))]:List AV);letI z1:=([(0,.row 49 7 1 (wap 7 (.str [(97:UInt8)]:: .q (atF [aF] 0).ver:: .q (atF [aF] 0).day:: .q (atF [aF] 0).kind:: .view 15 0 (wad (atM (atF [aF] 0).ms)):: .view 5 1 (wae (atR (atF [aF] 0).rs)):: .view 5 0 (wag (atT (atF [aF] 0).ts))::List.append [] wdj)) false)]:oL7);letI z0:=(∀(i:Nat),i<1->nrefL (wap 7 (.str [(97:UInt8)]:: .q (atF [aF] 0).ver:: .q (atF [aF] 0).day:: .q (atF [aF] 0).kind:: .view 15 0 (wad (atM (atF [aF] 0).ms)):: .view 5 1 (wae (atR (atF [aF] 0).rs)):: .view 5 0 (wag (atT (atF [aF] 0).ts))::List.append [] wdj) i)=true:Prop);(z8=waf λ(_x:Nat)=>aF)/\z5/\z5/\(49=49/\3=3/\false=false/\z8=waf λ(_x:Nat)=>aF)/\z5/\z7/\(0<1/\7=7)/\(TEq [(4,.nil),(5,.nil),(6,.own 0 1),(7,.map 1),(9,.ptr 2 0),(17,.own 0 1),(18,.q (↑1:Int)),(19,.q 0)] [(4,.nil),(5,.nil),(6,.own 0 1),(7,.map 1),(9,.ptr 2 0),(17,.own 0 1),(18,.q (↑(List.length [aF]):Int)),(19,.q (↑0:Int))]/\wai [(0,.row 49 7 1 z8 false),(1,.amap (List.map (λ(p:AV×AV)=>(AV.rn (ren 0 [(1,0),(33,1),(34,2)]) p.1,AV.rn (ren 0 [(1,0),(33,1),(34,2)]) p.2)) [])),(2,.cells z2 49)] [(0,.row 49 7 1 (waf (atF [aF])) false),(1,.amap (entM E)),(2,.cells z2 49)])/\List.Nodup (List.map Prod.fst E)/\inR .i64 (getC E (mk2 (edM aF))+1)/\inR .i64 ((↑0:Int)+1)/\z7/\(0<1/\7=7)/\(wbu te 173 (entM (addC E (mk2 (edM aF))))/\AV.q (wao (Option.getD z3 (zvA (.q 0))))=Option.getD z3 (zvA (.q 0)))/\wab (decide ((1:Int)<wao (Option.getD z3 (zvA (.q 0))))) (z6/\z4/\inR .i64 ((0:Int)+1)/\z0/\∃(O':oL7),wai z1 O'/\R (.tuple [.nil,.own 0 1]) O') (z6/\z4/\inR .i64 ((0:Int)+1)/\z0/\∃(O':oL7),wai z1 O'/\R (.tuple [.own 0 1,.nil]) O')):=by kernel_rfl
theorem nf_splB(R:oR7):wpFn te [(39,.det wh4),(100,.rel wil)] [] 2 Tryz.f99 [.view 7 1 (waf (λ_=>aF)),.q 9] [] R=(((waf λ(_x:Nat)=>aF)=waf λ(_x:Nat)=>aF)/\(∀(i:Nat),i<1->true=true)/\(∀(i:Nat),i<1->true=true)/\(49=49/\3=3/\false=false/\(waf λ(_x:Nat)=>aF)=waf λ(_x:Nat)=>aF)/\(∀(i:Nat),i<0->true=true)/\R (.tuple [.nil,.nil]) []):=by kernel_rfl
theorem nf_ixN(R:oR7):wpFn te [] [] 2 Tryz.f144 [.nil,.func 101 [.ptr 0 0]] [.cells [.map 1] 132,.amap []] R=(R (.q (-1:Int)) [(0,.cells [.map 1] 132),(1,.amap (List.map (λ(p:AV×AV)=>(AV.rn (ren 2 []) p.1,AV.rn (ren 2 []) p.2)) []))]):=by kernel_rfl
theorem nf_delN(R:oR7):wpFn te [(144,.det wnr)] [] 2 Tryz.f100 [.nil,.func 101 [.ptr 0 0]] [.cells [.map 1] 132,.amap []] R=((List.map (λ(p:AV×AV)=>(AV.rn (idxN [0,1]) p.1,AV.rn (idxN [0,1]) p.2)) []=[]/\132=132)/\R .nil [(0,.cells [.map 1] 132),(1,.amap (List.map (λ(p:AV×AV)=>(AV.rn (ren 2 []) p.1,AV.rn (ren 2 []) p.2)) (List.map (λ(p:AV×AV)=>(AV.rn (sig [0,1] 2) p.1,AV.rn (sig [0,1] 2) p.2)) [])))]):=by kernel_rfl
theorem nf_vwA(R:oR7):wpFn te [(99,.det why),(100,.rel wik)] [] 2 Tryz.f44 [.view 7 1 (waf (λ_=>aF)),.q 10] [] R=(letI z3:=((waf λ(_x:Nat)=>aF)=waf λ(_x:Nat)=>aF:Prop);letI z2:=(wao (Option.getD (mget [] (.str [(97:UInt8)])) (zvA (.q 0))));letI z1:=TI.desc (tiO Tryz.prog false 9);letI z0:=(∀(i:Nat),i<1->true=true:Prop);z3/\z0/\((0:Int)<=0/\(0:Int)<(↑1:Int))/\(0<1/\7=7)/\(wb9 z1 []/\AV.q z2= .q 0)/\wb9 z1 []/\inR .i64 ((0:Int)+1)/\z0/\(49=49/\132=132/\false=false/\z3/\List.map (λ(p:AV×AV)=>(AV.rn (idxN [0,17,16]) p.1,AV.rn (idxN [0,17,16]) p.2)) (mset [] (.str [(97:UInt8)]) (.q (max z2 ((λ(_x:Nat)=>aF) 0).ver)))=[(.str [(97:UInt8)],.q 1)])/\z0/\z0/\∃(O':oL7),wai [(0,.row 49 7 1 (waf λ(_x:Nat)=>aF) false)] O'/\R (.own 0 1) O'):=by kernel_rfl
theorem nf_vwB(R:oR7):wpFn te [(99,.det why),(100,.rel wik)] [] 2 Tryz.f44 [.view 7 1 (waf (λ_=>aF)),.q 9] [] R=(((waf λ(_x:Nat)=>aF)=waf λ(_x:Nat)=>aF)/\(132=132/\List.map (λ(p:AV×AV)=>(AV.rn (idxN [17,16]) p.1,AV.rn (idxN [17,16]) p.2)) []=[])/\R .nil []):=by kernel_rfl
theorem w4e(R:oR7):wpFn te [(143,.det wig)] [] 2 Tryz.f144 [.own 0 1,.func 143 [.ptr 1 0]] [.row 49 7 1 (waf (λ_=>aF)) false,.cells [.q 10] 3] R=(((0:Int)<=0/\(0:Int)<(↑1:Int))/\(0<1/\7=7)/\((FlC 0 (wad (atM aF.ms)) 1 (wae (atR aF.rs)) 0 (wag (atT aF.ts))/\FL.Rg (flV [(97:UInt8)] aF.ver aF.day aF.kind 0 (wad (atM aF.ms)) 1 (wae (atR aF.rs)) 0 (wag (atT aF.ts))))/\3=3/\True)/\inR .i64 ((0:Int)+1)/\(∀(i:Nat),i<1->true=true)/\∃(O':oL7),wai [(0,.row 49 7 1 (waf λ(_x:Nat)=>aF) false),(1,.cells [.q 10] 3)] O'/\R (.q (-1:Int)) O'):=by kernel_rfl
theorem w4x(R:oR7):wpFn te [(144,.det wf5)] [] 2 Tryz.f100 [.own 0 1,.func 143 [.ptr 1 0]] [.row 49 7 1 (waf (λ_=>aF)) false,.cells [.q 10] 3] R=(letI z0:=(∀(i:Nat),i<1->true=true:Prop);z0/\(49=49/\3=3/\false=false/\(waf λ(_x:Nat)=>aF)=waf λ(_x:Nat)=>aF)/\z0/\z0/\∃(O':oL7),wai [(0,.row 49 7 1 (waf λ(_x:Nat)=>aF) false),(1,.cells [.q 10] 3)] O'/\R (.own 0 1) O'):=by kernel_rfl
theorem nf_ixA9(R:oR7):wpFn te [(143,.det wig)] [] 2 Tryz.f144 [.own 0 1,.func 143 [.ptr 1 0]] [.row 49 7 1 (waf (λ_=>aF)) false,.cells [.q 9] 3] R=(((0:Int)<=0/\(0:Int)<(↑1:Int))/\(0<1/\7=7)/\((FlC 0 (wad (atM aF.ms)) 1 (wae (atR aF.rs)) 0 (wag (atT aF.ts))/\FL.Rg (flV [(97:UInt8)] aF.ver aF.day aF.kind 0 (wad (atM aF.ms)) 1 (wae (atR aF.rs)) 0 (wag (atT aF.ts))))/\3=3/\True)/\(∀(i:Nat),i<1->true=true)/\∃(O':oL7),wai [(0,.row 49 7 1 (waf λ(_x:Nat)=>aF) false),(1,.cells [.q 9] 3)] O'/\R (.q 0) O'):=by kernel_rfl
theorem w4w(R:oR7):wpFn te [(144,.det wf5)] [] 2 Tryz.f100 [.own 0 1,.func 143 [.ptr 1 0]] [.row 49 7 1 (waf (λ_=>aF)) false,.cells [.q 9] 3] R=(letI z0:=((0:Int)<=0/\(0:Int)<=(↑1:Int):Prop);(∀(i:Nat),i<1->true=true)/\(49=49/\3=3/\false=false/\(waf λ(_x:Nat)=>aF)=waf λ(_x:Nat)=>aF)/\(∀(i:Nat),i<1->true=true)/\inR .i64 ((0:Int)+1)/\z0/\0<=1/\z0/\(∀(i:Nat),i<0->true=true)/\∃(O':oL7),wai [(0,.row 49 7 0 (waf λ(_x:Nat)=>aF) false),(1,.cells [.q 9] 3)] O'/\R (.own 0 0) O'):=by kernel_rfl
theorem nf_ixAV(R:oR7):wpFn te [(101,.det woc)] [] 2 Tryz.f144 [.own 0 1,.func 101 [.ptr 1 0]] [.row 49 7 1 (waf (λ_=>aF)) false,.cells [.map 2] 132,.amap [(.str [97],.q 1)]] R=(letI z0:=(List.map (λ(p:AV×AV)=>(AV.rn (idxN [1,2]) p.1,AV.rn (idxN [1,2]) p.2)) [(.str [(97:UInt8)],.q 1)]);((0:Int)<=0/\(0:Int)<(↑1:Int))/\(0<1/\7=7)/\((FlC 0 (wad (atM aF.ms)) 1 (wae (atR aF.rs)) 0 (wag (atT aF.ts))/\FL.Rg (flV [(97:UInt8)] aF.ver aF.day aF.kind 0 (wad (atM aF.ms)) 1 (wae (atR aF.rs)) 0 (wag (atT aF.ts))))/\132=132/\EsV z0)/\inR .i64 ((0:Int)+1)/\(∀(i:Nat),i<1->true=true)/\∃(O':oL7),wai [(0,.row 49 7 1 (waf λ(_x:Nat)=>aF) false),(1,.cells [.map 2] 132),(2,.amap (List.map (λ(p:AV×AV)=>(AV.rn (ren 3 []) p.1,AV.rn (ren 3 []) p.2)) (List.map (λ(p:AV×AV)=>(AV.rn (sig [1,2] 3) p.1,AV.rn (sig [1,2] 3) p.2)) z0)))] O'/\R (.q (-1:Int)) O'):=by kernel_rfl
theorem w4v(R:oR7):wpFn te [(144,.det wf5)] [] 2 Tryz.f100 [.own 0 1,.func 101 [.ptr 1 0]] [.row 49 7 1 (waf (λ_=>aF)) false,.cells [.map 2] 132,.amap [(.str [97],.q 1)]] R=(letI z0:=(∀(i:Nat),i<1->true=true:Prop);z0/\(49=49/\132=132/\false=false/\((waf λ(_x:Nat)=>aF)=waf λ(_x:Nat)=>aF)/\List.map (λ(p:AV×AV)=>(AV.rn (idxN [0,1,2]) p.1,AV.rn (idxN [0,1,2]) p.2)) [(.str [(97:UInt8)],.q 1)]=[(.str [(97:UInt8)],.q 1)])/\z0/\z0/\∃(O':oL7),wai [(0,.row 49 7 1 (waf λ(_x:Nat)=>aF) false),(1,.cells [.map 2] 132),(2,.amap (List.map (λ(p:AV×AV)=>(AV.rn (ren 3 []) p.1,AV.rn (ren 3 []) p.2)) (List.map (λ(p:AV×AV)=>(AV.rn (sig [0,1,2] 3) p.1,AV.rn (sig [0,1,2] 3) p.2)) [(.str [(97:UInt8)],.q 1)])))] O'/\R (.own 0 1) O'):=by kernel_rfl
theorem aF_enc:encF aF=aT:=by
 have i0:=aI1 0 (by omega);have i1:=aI1 1 (by omega);have i2:=aI1 2 (by omega);have i5:=aI1 5 (by omega);have i8:=aI1 8 (by omega);show (Go.Lib.itoa ((1:Nat):Int)++58::([97]++[44]))++((Go.Lib.itoa ((1:Nat):Int)++[44])++((Go.Lib.itoa ((2:Nat):Int)++[44])++((Go.Lib.itoa ((0:Nat):Int)++[44])++([]++((Go.Lib.itoa ((1:Nat):Int)++[44])++(((Go.Lib.itoa ((1:Nat):Int)++58::([111]++[44]))++((Go.Lib.itoa ((8:Nat):Int)++58::([57,54,51,56,53,48,55,52]++[44]))++((Go.Lib.itoa ((5:Nat):Int)++[44])++((Go.Lib.itoa ((2:Nat):Int)++[44])++(Go.Lib.itoa (300:Int)++[44]))))++[])++((Go.Lib.itoa ((0:Nat):Int)++[44])++[])))))))=_;rw[i0,i1,i2,i5,i8,aI3];rfl
theorem aF_rg:aF.Rg:=⟨by simp only[inR,aF];omega,by simp only[inR,aF];omega,by decide,by decide,by decide,λm hm=>(by cases hm),λr hr=>(by
 rw[List.mem_singleton.1 hr];exact⟨by simp only[inR,aR];omega,by simp only[inR,aR];omega,by simp only[inR,aR];omega⟩),λt ht=>(by cases ht),by rw[aF_enc];decide⟩
theorem wto:(flV [97] aF.ver aF.day aF.kind 0 (wad (atM aF.ms)) 1 (wae (atR aF.rs)) 0 (wag (atT aF.ts))).Rg:=by
 have h:=wgp aF;exact h ▸ aF_rg
theorem wsc(hP:C.P=Tryz.prog):wah C 144 wf5:=by
 rintro args objs U Os vc h hvc;unfold wf5 at h;split at h<;>simp only[sI7,pI7,reduceCtorEq] at h
 .obtain⟨rfl,rfl,rfl⟩:=h;obtain⟨rfl,rfl,rfl,rfl⟩:=hvc;refine wah.wpL (prg hP) [(143,.det wig)] [] 2 (.cons (clD_ok hP) .nil) (hP ▸ Tryz.func144) rfl rfl rfl [] (by kernel_rfl) trivial ?_;rw[w4e];exact⟨⟨by omega,by omega⟩,⟨by omega,rfl⟩,⟨⟨whm aF,wto⟩,rfl,trivial⟩,by simp only[inR];omega,λ_ _=>rfl,_,wau _,rfl,rfl⟩
 .obtain⟨rfl,rfl,rfl⟩:=h;obtain⟨rfl,rfl,rfl,rfl⟩:=hvc;refine wah.wpL (prg hP) [(143,.det wig)] [] 2 (.cons (clD_ok hP) .nil) (hP ▸ Tryz.func144) rfl rfl rfl [] (by kernel_rfl) trivial ?_;rw[nf_ixA9];exact⟨⟨by omega,by omega⟩,⟨by omega,rfl⟩,⟨⟨whm aF,wto⟩,rfl,trivial⟩,λ_ _=>rfl,_,wau _,rfl,rfl⟩
 .obtain⟨rfl,rfl,rfl⟩:=h;obtain⟨rfl,rfl,rfl,rfl,rfl⟩:=hvc;refine wah.wpL (prg hP) [(101,.det woc)] [] 2 (.cons (clV_ok hP) .nil) (hP ▸ Tryz.func144) rfl rfl rfl [] (by kernel_rfl) trivial ?_;rw[nf_ixAV];exact⟨⟨by omega,by omega⟩,⟨by omega,rfl⟩,⟨⟨whm aF,wto⟩,rfl,⟨[[97]],λ_=>1,rfl,List.nodup_cons.2 ⟨List.not_mem_nil,List.nodup_nil⟩⟩⟩,by simp only[inR];omega,λ_ _=>rfl,_,wau _,rfl,rfl⟩
theorem wyx(hP:C.P=Tryz.prog):wa4 C 100 wil:=by
 rintro args objs R h;unfold wil at h;split at h
 .obtain⟨⟨rfl,rfl,rfl,rfl⟩,hR⟩:=h;refine wa4.wpL (prg hP) [(144,.det wf5)] [] 2 (.cons (wsc hP) .nil) (hP ▸ Tryz.func100) rfl rfl rfl [] (by kernel_rfl) trivial ?_;rw[w4x];exact⟨λ_ _=>rfl,⟨rfl,rfl,rfl,rfl⟩,λ_ _=>rfl,λ_ _=>rfl,_,wau _,hR⟩
 .obtain⟨⟨rfl,rfl,rfl,rfl⟩,hR⟩:=h;refine wa4.wpL (prg hP) [(144,.det wf5)] [] 2 (.cons (wsc hP) .nil) (hP ▸ Tryz.func100) rfl rfl rfl [] (by kernel_rfl) trivial ?_;rw[w4w];exact⟨λ_ _=>rfl,⟨rfl,rfl,rfl,rfl⟩,λ_ _=>rfl,by simp only[inR];omega,⟨by omega,by omega⟩,by omega,⟨by omega,by omega⟩,λ_ _=>rfl,_,wau _,hR⟩
 .exact h.elim
theorem wur(hP:C.P=Tryz.prog)(hL:∀w,C.laid w->LaidW w):wah C 99 why:=by
 rintro args objs U Os vc h hvc;unfold why at h;split at h<;>simp only[sI7,pI7,reduceCtorEq] at h
 .obtain⟨rfl,rfl,rfl⟩:=h;subst hvc;refine wa4.wpL (prg hP) [(39,.det wh4),(100,.rel wil)] [(1006,L_s6 [] aF [aF] 0)] 2 (.cons (wvw hP hL) (.cons (wyx hP) .nil)) (hP ▸ Tryz.func99) rfl rfl rfl [(regC Tryz.f99 6,L_s6 [] aF [aF] 0)] (by kernel_rfl) ⟨s6_ok hP _ _ _ _,trivial⟩ ?_;rw[nf_splA];refine⟨rfl,λ_ _=>rfl,λ_ _=>rfl,⟨rfl,rfl,rfl,rfl⟩,λ_ _=>rfl,⟨by omega,by omega⟩,⟨by omega,rfl⟩,⟨rfl,⟨rfl,rfl,rfl,rfl,rfl,up1 rfl⟩,rfl,rfl,trivial⟩,List.nodup_nil,by simp only[inR];decide,by simp only[inR];omega,⟨by omega,by omega⟩,⟨by omega,rfl⟩,⟨?_,rfl⟩,⟨by omega,rfl,by omega⟩,⟨⟨by omega,rfl⟩,rfl,by omega,by omega⟩,by simp only[inR];omega,up1 rfl,[(0,.row 49 7 1 (waf (λ_=>aF)) false)],⟨⟨rfl,rfl,rfl,rfl,rfl,up1 rfl⟩,trivial⟩,rfl,rfl⟩;exact wsz (L:=addC [] (mk2 (edM aF))) (List.nodup_cons.2 ⟨List.not_mem_nil,List.nodup_nil⟩)
 .obtain⟨rfl,rfl,rfl⟩:=h;subst hvc;refine wah.wpL (prg hP) [(39,.det wh4),(100,.rel wil)] [] 2 (.cons (wvw hP hL) (.cons (wyx hP) .nil)) (hP ▸ Tryz.func99) rfl rfl rfl [] (by kernel_rfl) trivial ?_;rw[nf_splB];exact⟨rfl,λ_ _=>rfl,λ_ _=>rfl,⟨rfl,rfl,rfl,rfl⟩,λ_ _=>rfl,rfl,rfl⟩
theorem ixN_ok(hP:C.P=Tryz.prog):wah C 144 wnr:=by
 have _:C.Loose:=inferInstance;rintro args objs U Os vc h hvc;unfold wnr at h;split at h<;>cases h;obtain⟨rfl,rfl⟩:=hvc;refine wah.wpL (prg hP) [] [] 2 .nil (hP ▸ Tryz.func144) rfl rfl rfl [] (by kernel_rfl) trivial ?_;rw[nf_ixN];exact⟨rfl,rfl⟩
theorem wyw(hP:C.P=Tryz.prog):wa4 C 100 wik:=by
 rintro args objs R h;unfold wik at h;split at h
 .obtain⟨⟨rfl,rfl,rfl,rfl,rfl⟩,hR⟩:=h;refine wa4.wpL (prg hP) [(144,.det wf5)] [] 2 (.cons (wsc hP) .nil) (hP ▸ Tryz.func100) rfl rfl rfl [] (by kernel_rfl) trivial ?_;rw[w4v];exact⟨λ_ _=>rfl,⟨rfl,rfl,rfl,rfl,rfl⟩,λ_ _=>rfl,λ_ _=>rfl,_,wau _,hR⟩
 .obtain⟨⟨rfl,rfl⟩,hR⟩:=h;refine wa4.wpL (prg hP) [(144,.det wnr)] [] 2 (.cons (ixN_ok hP) .nil) (hP ▸ Tryz.func100) rfl rfl rfl [] (by kernel_rfl) trivial ?_;rw[nf_delN];exact⟨⟨rfl,rfl⟩,hR⟩
 .exact h.elim
theorem vwA_ok(hP:C.P=Tryz.prog)(hL:∀w,C.laid w->LaidW w):wah C 44 S_vwA:=by
 rintro args objs U Os vc h hvc;unfold S_vwA at h;split at h<;>simp only[sI7,pI7,reduceCtorEq] at h
 .obtain⟨rfl,rfl,rfl⟩:=h;subst hvc;refine wa4.wpL (prg hP) [(99,.det why),(100,.rel wik)] [] 2 (.cons (wur hP hL) (.cons (wyw hP) .nil)) (hP ▸ Tryz.func44) rfl rfl rfl [] (by kernel_rfl) trivial ?_;rw[nf_vwA];exact⟨rfl,λ_ _=>rfl,⟨by omega,by omega⟩,⟨by omega,rfl⟩,⟨wk8,rfl⟩,wk8,by simp only[inR];omega,λ_ _=>rfl,⟨rfl,rfl,rfl,rfl,rfl⟩,λ_ _=>rfl,λ_ _=>rfl,_,wau _,rfl,rfl⟩
 .obtain⟨rfl,rfl,rfl⟩:=h;subst hvc;refine wa4.wpL (prg hP) [(99,.det why),(100,.rel wik)] [] 2 (.cons (wur hP hL) (.cons (wyw hP) .nil)) (hP ▸ Tryz.func44) rfl rfl rfl [] (by kernel_rfl) trivial ?_;rw[nf_vwB];exact⟨rfl,⟨rfl,rfl⟩,rfl,rfl⟩
theorem vwO_ok(hP:C.P=Tryz.prog)(hL:∀w,C.laid w->LaidW w):wah C 44 wmh:=by
 rintro args objs U Os vc h hvc;unfold wmh at h;split at h<;>simp only[sI7,pI7,reduceCtorEq] at h
 .rename_i t f fr;obtain⟨rfl,rfl,rfl⟩:=h;refine wal.rowEq 0 (f':=waf (λ_=>aF)) rfl (up1 hvc.symm) ?_;have hh:ADet C 44 [.view 7 1 (waf (λ_=>aF)),.q 10] [] (.view 7 1 (waf (λ_=>aF))) []:=by
   refine wal.frzO 0 ((vwA_ok hP hL [.view 7 1 (waf (λ_=>aF)),.q 10] [] _ _ _ rfl rfl).mono ?_);rintro u O ⟨rfl,rfl⟩;exact⟨λ_ _=>rfl,rfl,rfl⟩
  exact ADet.give hh rfl rfl rfl (λ_ _=>rfl)
 .rename_i t f fr;obtain⟨rfl,rfl,rfl⟩:=h;refine wal.rowEq 0 (f':=waf (λ_=>aF)) rfl (up1 hvc.symm) ?_;exact ADet.give (vwA_ok hP hL [.view 7 1 (waf (λ_=>aF)),.q 9] [] _ _ _ rfl rfl) rfl rfl rfl (λ_ _=>rfl)
end Go.Eng
