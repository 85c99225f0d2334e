/- Messages of a tape, exactly. -/
import Derived.Test.YtgcboligphndhaaGreatDoorWqn
namespace Go.Eng
def mapR(φ:AV->AV)(b:Bool):AObj->AObj
 |.cells cs t=>.cells (cs.map φ) t
 |.row t sz n f fr=>match b with
  |true=>.row t sz n (λi=>(f i).map φ) fr
  |false=>.row t sz n f fr
 |.amap es=>.amap es
 |.siter s pos=>.siter s pos
 |.miter m n0 left=>.miter m n0 left
 |.dead=>.dead
theorem wrz(φ:AV->AV)(b:Bool)(o:AObj):(mapR φ b o).mut=o.mut:=by
 cases o with
 |row t sz n f fr=>cases b<;>cases fr<;>rfl
 |_=>rfl
def mapO(φ:AV->AV)(rs:List Nat):List (Nat×AObj)->List (Nat×AObj)
 |[]=>[]
 |p::l=>(p.1,mapR φ (hasN rs p.1) p.2)::mapO φ rs l
theorem wjc(φ:AV->AV)(rs:List Nat):∀(O:List (Nat×AObj)) (k:Nat),lk (mapO φ rs O) k=(lk O k).map (mapR φ (hasN rs k))
 |[],k=>rfl
 |p::l,k=>by
  rw[mapO,wax,wax]
  by_cases e:p.1=k
  .subst e;rw[if_pos rfl,if_pos rfl];rfl
  .rw[if_neg e,if_neg e];exact wjc φ rs l k
theorem WRep.mapR{C:Ctx}{E:Ent}{O:Nat->Option AObj}{bs:Nat->Option Hd}{w:World}(hW:WRep C E O bs w)(φ:AV->AV)(hφ:∀v u,V w (MB E O bs) bs v u->V w (MB E O bs) bs v (φ u))(rs:List Nat):
  MB E (λk=>(O k).map (Eng.mapR φ (hasN rs k))) bs=MB E O bs/\WRep C E (λk=>(O k).map (Eng.mapR φ (hasN rs k))) bs w:=by
 have hold:∀r o,(O r).map (Eng.mapR φ (hasN rs r))=some o->∃o',O r=some o'/\o=Eng.mapR φ (hasN rs r) o':=λr o ho=>by
  obtain⟨o',h1,h2⟩:=Option.map_eq_some_iff.1 ho;exact⟨o',h1,h2.symm⟩
 have hmb:∀b,mutB (λk=>(O k).map (Eng.mapR φ (hasN rs k))) bs b->mutB O bs b:=λb ⟨r,o,c,h1,h2,h3⟩=>by
  obtain⟨o',q1,rfl⟩:=hold r o h1;exact⟨r,o',c,q1,by rw[← h2,wrz],h3⟩
 have hMB:MB E (λk=>(O k).map (Eng.mapR φ (hasN rs k))) bs=MB E O bs:=by
  funext b;apply propext
  constructor
  .rintro(h | h)
   .exact .inl h
   .exact .inr (hmb b h)
  .rintro(h | ⟨r,o,c,h1,h2,h3⟩)
   .exact .inl h
   .exact .inr ⟨r,Eng.mapR φ (hasN rs r) o,c,by simp[h1],by rw[wrz];exact h2,h3⟩
 refine⟨hMB,?_⟩
 exact {
  obj:=λr o ho=>by
   rw[hMB];obtain⟨o',h0,rfl⟩:=hold r o ho;have h:=hW.obj r o' h0
   cases o' with
   |cells cs t=>
    obtain⟨b,c,vs,h1,h2,h3,h4,h5⟩:=h;refine⟨b,c,vs,h1,h2,by rw[List.length_map];exact h3,h4,λj v u hv hu=>?_⟩;rw[List.getElem?_map] at hu;obtain⟨u0,q1,rfl⟩:=Option.map_eq_some_iff.1 hu;exact hφ v u0 (h5 j v u0 hv q1)
   |row t sz n f fr=>
    unfold Eng.mapR
    cases hasN rs r with
    |false=>exact h
    |true=>
     dsimp only
     rcases h with h | ⟨b,c,vs,h1,h2,h3,h4,h5,h6,h7,h8⟩
     .exact .inl h
     .refine .inr ⟨b,c,vs,h1,h2,h3,h4,h5,λi hi=>by rw[List.length_map];exact h6 i hi,h7,λi hi j v u hj hv hu=>?_⟩;rw[List.getElem?_map] at hu;obtain⟨u0,q1,rfl⟩:=Option.map_eq_some_iff.1 hu;exact hφ v u0 (h8 i hi j v u0 hj hv q1)
   |amap es=>exact h
   |siter s pos=>exact h
   |miter m n0 left=>exact h
   |dead=>exact h
  sep:=λr r' o1 o2 b c c' h1 h2 m1 m2 b1 b2=>by
   obtain⟨o1',p1,rfl⟩:=hold r o1 h1;obtain⟨o2',p3,rfl⟩:=hold r' o2 h2;rw[wrz] at m1 m2;exact hW.sep r r' o1' o2' b c c' p1 p3 m1 m2 b1 b2
  out:=λb hb=>hW.out b (hmb b hb)
  frz:=λr t' sz' n' f2 b c ho hb=>by
   rw[hMB];obtain⟨o',p1,p2⟩:=hold r _ ho
   cases o' with
   |row t sz n f fr=>
    unfold Eng.mapR at p2
    cases hq:hasN rs r with
    |false=>
     rw[hq] at p2;injection p2 with e1 e2 e3 e4 e5;subst e5;exact hW.frz r _ _ _ _ b c p1 hb
    |true=>
     rw[hq] at p2;injection p2 with e1 e2 e3 e4 e5;subst e5;exact hW.frz r _ _ _ _ b c p1 hb
   |_=>cases p2
  high:=λb hb=>hW.high b (by rw[← hMB];exact hb)
  lt:=hW.lt
  outlt:=hW.outlt
  keep:=hW.keep
  old:=λb hb=>hW.old b (hmb b hb)
  size:=hW.size
  pre:=hW.pre
  os:=hW.os
  tape:=hW.tape
  output:=hW.output
  laid:=hW.laid
  gle:=hW.gle }
def frzX(r:Nat)(rs:List Nat)(s:St):St:=match lk s.O r with
 |some (.row _ sz n g _)=>⟨frzT r sz n g s.T,mapO (frz r sz n g) rs (rm r s.O),s.nx,[]⟩
 |_=>s
theorem RepS.frzX{C:Ctx}{E:Ent}{N:Nat}{s:St}{bs:Nat->Option Hd}{a:Act}{w:World}(h:RepS C E N s bs a w)(r:Nat)(rs:List Nat)(hf:wlk r s):RepS C E N (Eng.frzX r rs s) bs a w:=by
 unfold Eng.frzX;unfold wlk at hf;split
 .rename_i t sz n g fr hO;rw[hO] at hf;obtain⟨⟨hF,hW⟩,hnx,hm⟩:=h;obtain⟨hS,hW1⟩:=hW.freeze hO;have hF1:=hF.step hS;obtain⟨e2,hW2⟩:=hW1.mapR (Eng.frz r sz n g) (λv u hV=>V.frz hW1 (waz _ _ _) hf hV) rs;obtain⟨hS3,hW3⟩:=hW2.less (O':=lk (mapO (Eng.frz r sz n g) rs (rm r s.O))) λk o hk=>by
   rw[wjc] at hk;obtain⟨o',q0,rfl⟩:=Option.map_eq_some_iff.1 hk;obtain⟨q1,q2⟩:=whg r s.O k o' q0;show Option.map _ (up (lk s.O) r _ k)=_;rw[wav _ _ _ q1,q2];rfl
  refine⟨⟨⟨hF.1,hF.2.1,λi u hu=>?_⟩,hW3⟩,λk hk=>⟨?_,(hnx k hk).2⟩,hm⟩
  .obtain⟨u0,h0,rfl⟩:=wwv hu;obtain⟨v,hv,hV⟩:=hF1.2.2 i u0 h0;have hV2:=V.frzC hW1 (waz _ _ _) hf hV;rw[← e2] at hV2;exact⟨v,hv,hV2.step hS3⟩
  .show lk (mapO _ rs (rm r s.O)) k=none;rw[wjc]
   cases hx:lk (rm r s.O) k with
   |none=>rfl
   |some o=>
    have:=(whg r s.O k o hx).2;rw[(hnx k hk).1] at this;cases this
 .exact h
theorem AWP.frzX{C:Ctx}{m N:Nat}{c:Code}{Q:Exit->St->Prop}{s:St}(r:Nat)(rs:List Nat)(hf:wlk r s)(h:AWP C m N c Q (Eng.frzX r rs s)):AWP C m N c Q s:=by
 intro E hE bs a w hr;exact h E hE bs a w (hr.frzX r rs hf)
def awR:RW:=⟨[111],[57,54,51,56,53,48,55,52],5,2,300⟩
def awFl:FL:=⟨[97],1,10,2,[],[awR],[]⟩
def S_awc:St:=⟨[(0,.bool false),(1,.ptr 0 0)],[(0,.cells [.str awFl.id,.q awFl.ver,.q awFl.day,.q awFl.kind,.view 15 awFl.ms.length (wad (atM awFl.ms)),.view 5 awFl.rs.length (wae (atR awFl.rs)),.view 5 awFl.ts.length (wag (atT awFl.ts))] 49)],1,[]⟩
def S_aw0:St:=⟨[(0,.bool false),(1,.ptr 0 0)],[(0,.cells [.str [97],.q 1,.q 10,.q 2,.view 15 0 (wad (atM [])),.own 1 1,.view 5 0 (wag (atT []))] 49),(1,.row 61 5 1 (wae (atR [awR])) false)],2,[]⟩
def wqb:war:=λst Q=>canonIs te 0 [0,1] (nilVP 1 4 15 (wad (atM [])) (nilVP 1 6 5 (wag (atT [])) st)) S_aw0/\Q .normal ⟨[(0,.bool true)],[],0,[]⟩
def wok:Spec
 |[],[]=>some (.bool true,[],True)
 |_,_=>none
end Go.Eng
namespace Go.Eng
open Go.Proofs Go.RowKit
variable {C:Ctx} [C.Loose]
set_option maxRecDepth 20000
theorem nf_aw15(R:oR7):wpFn te [] [(1002,wqb)] 0 Tryz.f31 [] [] R=(letI z0:=([.str [(97:UInt8)],.q 1,.q 10,.q 2,.view 15 0 (wad (atM [])),.own 1 1,.view 5 0 (wag (atT []))]:List AV);(5<=16777216/\5=5/\1<=9223372036854775807)/\(TEq [(0,.bool false),(1,.ptr 0 0)] [(0,.bool false),(1,.ptr 0 0)]/\wai [(0,.cells z0 49),(1,.row 61 5 1 (wap 5 (.str [(111:UInt8)]:: .str [(57:UInt8),54,51,56,53,48,55,52]:: .q 5:: .q 2:: .q 300::List.append [] wc1)) false)] [(0,.cells z0 49),(1,.row 61 5 1 (wae (atR [awR])) false)])/\R (.bool true) []):=by kernel_rfl
open Go.Lib in
theorem nf_awB(Q:eR7):regP ⟨te,[(33,.det wh8),(44,.det wmh)],[],0,22,0⟩ (regC Tryz.f31 2) [0] Q S_awc=(letI z3:=(7<=16777216/\7=7/\1<=9223372036854775807:Prop);letI z2:=([.str [(97:UInt8)],.q aF.ver,.q aF.day,.q aF.kind,.view 15 0 (wad (atM aF.ms)),.view 5 1 (wae (atR aF.rs)),.view 5 0 (wag (atT aF.ts))]:List AV);letI z1:=([AV.str [(97:UInt8)],.q awFl.ver,.q awFl.day,.q awFl.kind,.view 15 0 (wad (atM awFl.ms)),.view 5 1 (wae (atR awFl.rs)),.view 5 0 (wag (atT awFl.ts))]:List AV);letI z0:=(∀(i:Nat),i<1->nrefL (wap 7 (.str [(97:UInt8)]:: .q awFl.ver:: .q awFl.day:: .q awFl.kind:: .view 15 0 (wad (atM awFl.ms)):: .view 5 1 (wae (atR awFl.rs)):: .view 5 0 (wag (atT awFl.ts))::List.append [] wdj) i)=true:Prop);wae (atR awFl.rs)=wae (atR [aR])/\z3/\z0/\z1=z2/\z3/\z0/\z1=z2/\Q .normal (St.mk [(0,.bool true)] [] 0 [])):=by kernel_rfl
theorem awB2_ok(hP:C.P=Tryz.prog)(hL:∀w,C.laid w->LaidW w):waj C 0 22 (regC Tryz.f31 2) wqb:=by
 rintro st Q ⟨h0,hQ⟩;refine AWP.nilVP 1 6 5 (wag (atT [])) (AWP.nilVP 1 4 15 (wad (atM [])) (AWP.canonIs (te:=te) [0,1] h0 (AWP.frzX 1 [] (λ_ _=>rfl) ?_) ⟨λ_ _=>rfl,trivial⟩));refine waj.reg (S:=S_awc) (prg hP) [(33,.det wh8),(44,.det wmh)] 0 (.cons (wyo hP hL) (.cons (vwO_ok hP hL) .nil)) [0,1] [0] rfl ?_ trivial;rw[nf_awB];exact⟨rfl,⟨by omega,rfl,by omega⟩,up1 rfl,rfl,⟨by omega,rfl,by omega⟩,up1 rfl,rfl,hQ⟩
theorem w8x(hP:C.P=Tryz.prog)(hL:∀w,C.laid w->LaidW w):wah C 31 wok:=by
 rintro args objs U Os vc h hvc;unfold wok at h;split at h<;>cases h;refine wah.wpL (prg hP) [] [(1002,wqb)] 0 .nil (hP ▸ Tryz.func31) rfl rfl rfl [(regC Tryz.f31 2,wqb)] (by kernel_rfl) ⟨awB2_ok hP hL,trivial⟩ ?_;rw[nf_aw15];exact⟨⟨by omega,rfl,by omega⟩,⟨rfl,rfl,⟨rfl,rfl,rfl,rfl,rfl,up1 rfl⟩,trivial⟩,rfl,rfl⟩
end Go.Eng
namespace Go.Eng
structure RW.Made (r:RW):Prop where
 ok:rowF r=true
 o:r.o.length<=2
 u:1<=r.u/\r.u<=20
 tv:1<=r.tv/\r.tv<=2400
structure RwS where
 c:Nat
 g:Nat->RW
 a:Int
def RW.put(g:Nat->RW)(k:Nat)(r:RW)(i:Nat):RW:=if i<k then g i else r
def wmx(n:Nat)(v:Nat->Int)(N:Int)(i:RwS):St:=⟨[(0,.ptr 0 0),(5,.own 1 i.c),(9,.q N),(10,.q i.c)],
 [(0,.cells [.view 1 n (wac v),.q i.a] 27),(1,.row 61 5 i.c (wae i.g) false)],2,[]⟩
def wpc(n:Nat)(v:Nat->Int)(a N:Int):war:=λst Q=>canonIs te 1 [0,5,9,10] (ownNil 5 61 5 st) (wmx n v N ⟨0,λ_=>default,a⟩)/\(0<=N/\N<=100)/\(0<=a/\a<=4611686018427375000)/\
 ∀i:RwS,i.c=N.toNat->i.a=a+6 * i.c->(∀j,j<i.c->(i.g j).Made)->Q (.exit 0) ⟨[(5,.own 1 i.c)],[(0,.cells [.view 1 n (wac v),.q i.a] 27),(1,.row 61 5 i.c (wae i.g) false)],2,[]⟩
def wov:wbp
 |[.ptr 0 0,.int .i64 most],[.cells [.view sz n f,.int .i64 a] t],R=>t=27/\sz=1/\f=wac (vInt f)/\(0<=a/\a<=4611686018427370000)/\(0<=most/\most<=90)/\
   ∀(c:Nat) (g:Nat->RW) (a':Int),c<=most.toNat->(a<=a'/\a'<=a+600)->(∀j,j<c->(g j).Made)->
   R (.own 1 c) [(0,.cells [.view 1 n f,.q a'] 27),(1,.row 61 5 c (wae g) false)]
 |_,_,_=>False
def cutR(g:Nat->RW)(i:Nat):RW:=⟨(g i).o.take 30,(g i).p.take 30,(g i).per,(g i).u,(g i).tv⟩
def BK.Rg(b:BK):Prop:=inR .i64 b.up/\inR .i64 b.pr
structure TfS where
 up:Int
 bs:List BK
 a:Int
def wj3(n:Nat)(v:Nat->Int)(N st:Int)(i:TfS):St:=⟨[(0,.ptr 0 0),(2,.ptr 1 0),(3,.ptr 2 0),(4,.q i.up),(9,.q N),(10,.q i.bs.length)],
 [(0,.cells [.view 1 n (wac v),.q i.a] 27),(1,.cells [.q 0,.nil] 95),(2,.cells [.q st,.own 3 i.bs.length] 95),(3,.row 115 2 i.bs.length (wan (atB i.bs)) false)],4,[]⟩
def wd0(n:Nat)(v:Nat->Int)(a:Int):Nat->Int
 |0=>0
 |k+1=>wd0 n v a k+(1+waa n v (a+2 * k) 60)
def tarB(n:Nat)(v:Nat->Int)(a:Int):Nat->List BK
 |0=>[]
 |k+1=>tarB n v a k++[⟨wd0 n v a (k+1),waa n v (a+2 * k+1) 4 * 10⟩]
def tarL(n:Nat)(v:Nat->Int)(a:Int):List BK:=tarB n v (a+2) (waa n v (a+1) 4).toNat++[⟨0,waa n v (a+2+2 * waa n v (a+1) 4) 4 * 10⟩]
def tarA(n:Nat)(v:Nat->Int)(a:Int):Int:=a+2+2 * waa n v (a+1) 4+1
theorem wug(n:Nat)(v:Nat->Int)(a:Int):∀k,(tarB n v a k).length=k
 |0=>rfl
 |k+1=>by rw[tarB,lA7,wug n v a k];rfl
theorem wqo(n:Nat)(v:Nat->Int)(a:Int):∀k:Nat,0<=wd0 n v a k/\wd0 n v a k<=60 * k
 |0=>⟨Int.le_refl _,Int.le_refl _⟩
 |k+1=>by
  have:=wqo n v a k;have r:=wa0 (show (1:Int)<=60 by omega) n v (a+2 * k);rw[wd0];omega
theorem wuf(n:Nat)(v:Nat->Int)(a:Int):∀k,k<=1000->∀b∈tarB n v a k,b.Rg
 |0,_,b,hb=>by cases hb
 |k+1,hk,b,hb=>by
  rw[tarB] at hb
  rcases List.mem_append.1 hb with hb | hb
  .exact wuf n v a k (by omega) b hb
  .rw[List.mem_singleton.1 hb];have:=wqo n v a (k+1);have r:=wa0 (show (1:Int)<=4 by omega) n v (a+2 * k+1)
   constructor
   .show inR .i64 (wd0 n v a (k+1));simp only[inR];omega
   .show inR .i64 (waa n v (a+2 * k+1) 4 * 10);simp only[inR];omega
theorem w0c(n:Nat)(v:Nat->Int)(a:Int):(tarL n v a).length<=10/\(∀b∈tarL n v a,b.Rg)/\(a<=tarA n v a/\tarA n v a<=a+12):=by
 have r:=wa0 (show (1:Int)<=4 by omega) n v (a+1);have r2:=wa0 (show (1:Int)<=4 by omega) n v (a+2+2 * waa n v (a+1) 4);refine⟨?_,λb hb=>?_,?_⟩
 .unfold tarL;rw[lA7,wug];show _+1<=10;omega
 .unfold tarL at hb
  rcases List.mem_append.1 hb with hb | hb
  .exact wuf n v _ _ (by omega) b hb
  .rw[List.mem_singleton.1 hb]
   constructor
   .show inR .i64 0;simp only[inR];omega
   .show inR .i64 (waa n v (a+2+2 * waa n v (a+1) 4) 4 * 10);simp only[inR];omega
 .unfold tarA;omega
def wo8(n:Nat)(v:Nat->Int)(a N st:Int):war:=λs Q=>canonIs te 1 [0,2,3,4,9,10] (ownNilP 3 1 115 2 s) (wj3 n v N st ⟨0,[],a⟩)/\(0<=N/\N<=3)/\(0<=a/\a<=4611686018427375000)/\
 ∀i:TfS,(i.bs.length:Int)=N->i.a=a+2 * N->i.bs=tarB n v a N.toNat->
  Q (.exit 0) ⟨[(0,.ptr 0 0),(2,.ptr 1 0),(3,.ptr 2 0)],(wj3 n v N st i).O,4,[]⟩
def wmq:Spec
 |[.ptr 0 0],[.cells [.view sz n f,.int .i64 a] t]=>some (.agg [.q (waa n (vInt f) a 500),.view 2 (tarL n (vInt f) a).length (wan (atB (tarL n (vInt f) a)))],
   [(0,.cells [.view 1 n f,.q (tarA n (vInt f) a)] 27)],t=27/\sz=1/\f=wac (vInt f)/\(0<=a/\a<=4611686018427370000))
 |_,_=>none
def S_fl(n:Nat)(v:Nat->Int)(a:Int)(id:List UInt8)(ver day kind:Int)(ms:List MG)(rs:List RW)(ts:List RT):St:=⟨[(0,.ptr 0 0),(2,.ptr 1 0),(3,.ptr 2 0)],
 [(0,.cells [.view 1 n (wac v),.q a] 27),(1,.cells [.str [],.q 0,.q 0,.q 0,.nil,.nil,.nil] 49),
  (2,.cells [.str id,.q ver,.q day,.q kind,.own 3 ms.length,.own 4 rs.length,.own 5 ts.length] 49),
  (3,.row 40 15 ms.length (wad (atM ms)) false),(4,.row 61 5 rs.length (wae (atR rs)) false),(5,.row 97 5 ts.length (wag (atT ts)) false)],6,[]⟩
def wp8(n:Nat)(v:Nat->Int)(a:Int)(id:List UInt8)(ver day kind:Int):war:=λs Q=>
 canonIs te 1 [0,2,3] (ownNilP 3 6 97 5 (ownNilP 3 5 61 5 (ownNilP 3 4 40 15 s))) (S_fl n v a id ver day kind [] [] [])/\
 Q .normal ⟨[(0,.ptr 0 0),(2,.ptr 1 0),(3,.ptr 2 0),(20,.q kind)],(S_fl n v a id ver day kind [] [] []).O,6,[]⟩
def fidF(i:Int):List UInt8:=List.getD [[102],[103],[104]] i.toNat []
structure FiS where
 ts:List RT
 a:Int
def wn5(n:Nat)(v:Nat->Int)(id:List UInt8)(ver day kind N:Int)(i:FiS):St:=⟨[(0,.ptr 0 0),(2,.ptr 1 0),(3,.ptr 2 0),(35,.q N),(36,.q i.ts.length)],(S_fl n v i.a id ver day kind [] [] i.ts).O,6,[]⟩
def wp7(n:Nat)(v:Nat->Int)(a:Int)(id:List UInt8)(ver day kind N:Int):war:=λs Q=>canonIs te 1 [0,2,3,35,36] s (wn5 n v id ver day kind N ⟨[],a⟩)/\(0<=N/\N<=2)/\(0<=a/\a<=4611686018427365000)/\
 ∀i:FiS,i.ts.length<=2->(a<=i.a/\i.a<=a+40)->(∀t∈i.ts,t.Tn)->Q (.exit 1) ⟨[(0,.ptr 0 0),(2,.ptr 1 0),(3,.ptr 2 0)],(S_fl n v i.a id ver day kind [] [] i.ts).O,6,[]⟩
structure FL.Low (F:FL):Prop where
 id:F.id.length<=24
 m:F.ms.length<=4
 r:F.rs.length<=4
 t:F.ts.length<=2
 ver:1<=F.ver/\F.ver<=3
 kind:1<=F.kind/\F.kind<=3
 day:43860<=F.day/\F.day<=43865
def wo2:wbp
 |[.ptr 0 0],[.cells [.view sz n f,.int .i64 a] t],R=>t=27/\sz=1/\f=wac (vInt f)/\(0<=a/\a<=4611686018427360000)/\
   ∀(F:FL) (a':Int),F.Tn->F.ms.length<=4->F.rs.length<=4->F.ts.length<=2->FL.Low F->(a<=a'/\a'<=a+1100)->
   R (.agg [.str F.id,.q F.ver,.q F.day,.q F.kind,.own 1 F.ms.length,.own 2 F.rs.length,.own 3 F.ts.length]) [(0,.cells [.view 1 n f,.q a'] 27),
    (1,.row 40 15 F.ms.length (wad (atM F.ms)) false),(2,.row 61 5 F.rs.length (wae (atR F.rs)) false),(3,.row 97 5 F.ts.length (wag (atT F.ts)) false)]
 |_,_,_=>False
def wij:wbp
 |[.ptr 0 0],[.cells [.view sz n f,.int .i64 a] t],R=>t=27/\sz=1/\f=wac (vInt f)/\(0<=a/\a<=4611686018427360000)/\
   ∀(F:FL) (a':Int),F.Tn->FL.Low F->(a<=a'/\a'<=a+1100)->
   R (.agg [.str F.id,.q F.ver,.q F.day,.q F.kind,.view 15 F.ms.length (wad (atM F.ms)),.view 5 F.rs.length (wae (atR F.rs)),.view 5 F.ts.length (wag (atT F.ts))]) [(0,.cells [.view 1 n f,.q a'] 27)]
 |_,_,_=>False
def wdu(st x:Int):Int:=bif decide (st=3) || decide (st=4) then 0 else x
def wdz(st:Int)(p q:List UInt8):List UInt8:=bif decide (st=5) then (bif decide (q=p) then idF 4 else q) else []
def wev(st a:Int):Int:=bif decide (st=3) || decide (st=4) then a else bif decide (st=5) then a+1+1 else a+1
def we8(n:Nat)(v:Nat->Int)(a:Int):Int:=1+List.getD [(0:Int),0,0,1,2,3,4] (waa n v (a+1+1+1+1) 7).toNat 0
def visV(n:Nat)(v:Nat->Int)(a:Int):VT:=⟨outF (waa n v a 3),idF (waa n v (a+1) 4),1440+waa n v (a+1+1) 4,43830+waa n v (a+1+1+1) 100,we8 n v a,
 wdu (we8 n v a) (100+waa n v (a+1+1+1+1+1) 4 * 5),wdz (we8 n v a) (idF (waa n v (a+1) 4)) (idF (waa n v (a+1+1+1+1+1+1) 4))⟩
def visA(n:Nat)(v:Nat->Int)(a:Int):Int:=wev (we8 n v a) (a+1+1+1+1+1)
def wmi:Spec
 |[.ptr 0 0],[.cells [.view sz n f,.int .i64 a] t]=>some (.agg [.str (visV n (vInt f) a).o,.str (visV n (vInt f) a).p,.q (visV n (vInt f) a).per,.q (visV n (vInt f) a).day,.q (visV n (vInt f) a).st,.q (visV n (vInt f) a).pr,.str (visV n (vInt f) a).rep],
   [(0,.cells [.view 1 n f,.q (visA n (vInt f) a)] 27)],t=27/\sz=1/\f=wac (vInt f)/\(0<=a/\a<=4611686018427386000))
 |_,_=>none
def msgV(n:Nat)(v:Nat->Int)(a:Int):MG:=bif decide (waa n v (a+1+1) 5=0) then
  ⟨devF (waa n v a 3),1+waa n v (a+1) 9,2,⟨[],[],0,0,0,0,[]⟩,⟨outF (waa n v (a+1+1+1) 3),idF (waa n v (a+1+1+1+1) 4),1440+waa n v (a+1+1+1+1+1) 4,devF (waa n v (a+1+1+1+1+1+1) 3),1+waa n v (a+1+1+1+1+1+1+1) 9⟩⟩
 else ⟨devF (waa n v a 3),1+waa n v (a+1) 9,1,visV n v (a+1+1+1),⟨[],[],0,[],0⟩⟩
def msgA(n:Nat)(v:Nat->Int)(a:Int):Int:=bif decide (waa n v (a+1+1) 5=0) then a+1+1+1+1+1+1+1+1 else visA n v (a+1+1+1)
def wnm:Spec
 |[.ptr 0 0],[.cells [.view sz n f,.int .i64 a] t]=>some (.agg [.str (msgV n (vInt f) a).dev,.q (msgV n (vInt f) a).seq,.q (msgV n (vInt f) a).kind,.str (msgV n (vInt f) a).v.o,.str (msgV n (vInt f) a).v.p,.q (msgV n (vInt f) a).v.per,.q (msgV n (vInt f) a).v.day,.q (msgV n (vInt f) a).v.st,.q (msgV n (vInt f) a).v.pr,.str (msgV n (vInt f) a).v.rep,.str (msgV n (vInt f) a).d.o,.str (msgV n (vInt f) a).d.p,.q (msgV n (vInt f) a).d.per,.str (msgV n (vInt f) a).d.dev,.q (msgV n (vInt f) a).d.num],
   [(0,.cells [.view 1 n f,.q (msgA n (vInt f) a)] 27)],t=27/\sz=1/\f=wac (vInt f)/\(0<=a/\a<=4611686018427385000))
 |_,_=>none
def rowFn(r:Nat)(f':Nat->List AV)(s:St):St:=match lk s.O r with
 |some (.row t sz n _ fr)=>⟨s.T,(r,.row t sz n f' fr)::rm r s.O,s.nx,[]⟩
 |_=>s
def wkq(r:Nat)(f':Nat->List AV)(s:St):Prop:=match lk s.O r with
 |some (.row _ _ n f _)=>∀i,i<n->f' i=f i
 |_=>True
theorem RepS.rowFn{C:Ctx}{E:Ent}{N:Nat}{s:St}{bs:Nat->Option Hd}{a:Act}{w:World}(h:RepS C E N s bs a w)(r:Nat)(f':Nat->List AV)(hf:wkq r f' s):RepS C E N (Eng.rowFn r f' s) bs a w:=by
 unfold Eng.rowFn;unfold wkq at hf;split
 .rename_i t sz n f fr hO;rw[hO] at hf;have hf:∀i,i<n->f' i=f i:=hf;obtain⟨⟨hF,hW⟩,hnx,hm⟩:=h;obtain⟨e1,hW1⟩:=hW.rowEq hO hf;have eO:lk ((r,AObj.row t sz n f' fr)::rm r s.O)=up (lk s.O) r (.row t sz n f' fr):=by
   rw[wez];funext k;rw[wax]
   by_cases e:r=k
   .subst e;rw[waz,if_pos rfl]
   .have e':¬ (r,AObj.row t sz n f' fr).1=k:=e;rw[wav _ _ _ e,if_neg e']
  refine⟨⟨?_,?_⟩,λk hk=>⟨?_,(hnx k hk).2⟩,hm⟩
  .refine⟨hF.1,hF.2.1,λi u hu=>?_⟩;obtain⟨v,hv,hV⟩:=hF.2.2 i u hu;refine⟨v,hv,?_⟩;show V _ (MB E (lk ((r,AObj.row t sz n f' fr)::rm r s.O)) bs) _ _ _;rw[eO,e1];exact hV
  .show WRep C E (lk ((r,AObj.row t sz n f' fr)::rm r s.O)) bs w;rw[eO];exact hW1
  .show lk ((r,AObj.row t sz n f' fr)::rm r s.O) k=none;rw[eO];have hne:¬ r=k:=λe=>by subst e;rw[(hnx r hk).1] at hO;cases hO
   rw[wav _ _ _ hne];exact(hnx k hk).1
 .exact h
theorem AWP.rowFn{C:Ctx}{m N:Nat}{c:Code}{Q:Exit->St->Prop}{s:St}(r:Nat)(f':Nat->List AV)(hf:wkq r f' s)(h:AWP C m N c Q (Eng.rowFn r f' s)):AWP C m N c Q s:=by
 intro E hE bs a w hr;exact h E hE bs a w (hr.rowFn r f' hf)
theorem wal.mapO{C:Ctx}{f:FuncId}{args:List AV}{objs:List AObj}{R:AV->List (Nat×AObj)->Prop}(φ:AV->AV)(hφ:∀(w:World) (M:Nat->Prop) (bs:Nat->Option Hd) (v:Value) (u:AV),V w M bs v u->V w M bs v (φ u))(rs:List Nat)
  (h:wal C f args objs λu O=>R u (Eng.mapO φ rs O)):wal C f args objs R:=by
 refine⟨h.1,λE bs w cargs h1 h2 h3 h4 h5 h6 h7=>?_⟩;refine(h.2 E bs w cargs h1 h2 h3 h4 h5 h6 h7).mono ?_;rintro e w' ⟨v,u,O',bs',r1,hR,r3,r4,r5⟩;obtain⟨e2,hW2⟩:=r3.mapR φ (hφ w' _ bs') rs;have eO:lk (Eng.mapO φ rs O')=λk=>(lk O' k).map (Eng.mapR φ (hasN rs k)):=funext λk=>wjc φ rs O' k;refine⟨v,u,Eng.mapO φ rs O',bs',r1,hR,by rw[eO];exact hW2,by rw[eO,e2];exact r4,λk hk=>⟨?_,(r5 k hk).2⟩⟩;rw[wjc,(r5 k hk).1];rfl
def zMg:MG:=⟨[],0,0,⟨[],[],0,0,0,0,[]⟩,⟨[],[],0,[],0⟩⟩
def zRw:RW:=⟨[],[],0,0,0⟩
def wec(m:MG)(j i:Nat):MG:=bif decide (i<j) then m else zMg
def wms(n:Nat)(v:Nat->Int)(a:Int)(m:MG)(N j:Nat):St:=⟨[(0,.ptr 0 0),(2,.ptr 1 0),(3,.ptr 2 0),(4,.ptr 3 0),(85,.q N),(86,.q j)],
 [(0,.cells [.view 1 n (wac v),.q a] 27),(1,.cells [.str [],.q 0,.q 0,.q 0,.nil,.nil,.nil] 49),
  (2,.cells [.str [102],.q 1,.q 0,.q 1,.own 4 N,.own 5 0,.own 6 0] 49),
  (3,.cells [.str m.dev,.q m.seq,.q m.kind,.str m.v.o,.str m.v.p,.q m.v.per,.q m.v.day,.q m.v.st,.q m.v.pr,.str m.v.rep,.str m.d.o,.str m.d.p,.q m.d.per,.str m.d.dev,.q m.d.num] 40),
  (4,.row 40 15 N (wad (wec m j)) false),(5,.row 61 5 0 (wae (atR [])) false),(6,.row 97 5 0 (wag (atT [])) false)],7,[]⟩
def L_sp5(n:Nat)(v:Nat->Int)(a:Int)(m:MG)(N:Nat):war:=λs Q=>
 canonIs te 1 [0,2,3,4,85,86] (ownNilP 3 6 97 5 (ownNilP 3 5 61 5 s)) (wms n v a m N 0)/\N<=401/\
 Q (.exit 1) ⟨[(0,.ptr 0 0),(2,.ptr 1 0),(3,.ptr 2 0)],(S_fl n v a [102] 1 0 1 (List.replicate N m) [] []).O,6,[]⟩
def wpa(n:Nat)(v:Nat->Int):war:=λs Q=>∃(b:Int) (m:MG) (N:Nat),L_sp5 n v b m N s Q
def woq:wbp
 |[.ptr 0 0],[.cells [.view sz n f,.int .i64 a] t],R=>t=27/\sz=1/\f=wac (vInt f)/\(0<=a/\a<=4611686018427350000)/\
   ∀(F:FL) (a':Int),F.Tn->(a<=a'/\a'<=a+1200)->
   R (.agg [.str F.id,.q F.ver,.q F.day,.q F.kind,.view 15 F.ms.length (wad (atM F.ms)),.view 5 F.rs.length (wae (atR F.rs)),.view 5 F.ts.length (wag (atT F.ts))]) [(0,.cells [.view 1 n f,.q a'] 27)]
 |_,_,_=>False
structure FsS where
 L:List FL
 a:Int
def S_fs(n:Nat)(v:Nat->Int)(N:Int)(i:FsS):St:=⟨[(0,.ptr 0 0),(5,.own 1 i.L.length),(9,.q N),(10,.q i.L.length)],
 [(0,.cells [.view 1 n (wac v),.q i.a] 27),(1,.row 49 7 i.L.length (waf (atF i.L)) false)],2,[]⟩
def L_fs(n:Nat)(v:Nat->Int)(a N:Int):war:=λst Q=>canonIs te 1 [0,5,9,10] (ownNil 5 49 7 st) (S_fs n v N ⟨[],a⟩)/\(0<=N/\N<=20)/\(0<=a/\a<=4611686018427330000)/\
 ∀i:FsS,i.L.length=N.toNat->(a<=i.a/\i.a<=a+1100 * N)->(∀F∈i.L,F.Tn)->Q (.exit 0) ⟨[(5,.own 1 i.L.length)],(S_fs n v N i).O,2,[]⟩
def wo1:wbp
 |[.ptr 0 0,.int .i64 most],[.cells [.view sz n f,.int .i64 a] t],R=>t=27/\sz=1/\f=wac (vInt f)/\(0<=a/\a<=4611686018427320000)/\(0<=most/\most<=20)/\
   ∀(L:List FL) (a':Int),(L.length:Int)<=most->(a<=a'/\a'<=a+23000)->(∀F∈L,F.Tn)->
   R (.own 1 L.length) [(0,.cells [.view 1 n f,.q a'] 27),(1,.row 49 7 L.length (waf (atF L)) false)]
 |_,_,_=>False
def wzm:wbp
 |[.ptr 0 0],[.cells [.view sz n f,.int .i64 a] t],R=>t=27/\sz=1/\f=wac (vInt f)/\(0<=a/\a<=4611686018427300000)/\
   ∀(L:List FL) (a':Int),L.length<=8->(a<=a'/\a'<=a+25000)->(∀F∈L,F.Tn)->
   R (.own 1 L.length) [(0,.cells [.view 1 n f,.q a'] 27),(1,.row 49 7 L.length (waf (atF L)) false)]
 |_,_,_=>False
def woz:wbp
 |[.ptr 0 0],[.cells [.view sz n f,.int .i64 a] t],R=>t=27/\sz=1/\f=wac (vInt f)/\(0<=a/\a<=4611686018427300000)/\
   ∀(L:List FL) (a':Int),L.length<=8->(a<=a'/\a'<=a+25000)->(∀F∈L,F.Tn)->
   R (.view 7 L.length (waf (atF L))) [(0,.cells [.view 1 n f,.q a'] 27)]
 |_,_,_=>False
def S_l4(n:Nat)(v:Nat->Int)(a:Int)(L:List FL):St:=⟨[(0,.ptr 0 0),(3,.own 1 L.length)],[(0,.cells [.view 1 n (wac v),.q a] 27),(1,.row 49 7 L.length (waf (atF L)) false)],2,[]⟩
def L_l4(n:Nat)(v:Nat->Int):war:=λs Q=>∃(L:List FL) (a:Int),canonIs te 1 [0,3] s (S_l4 n v a L)/\(0<=a/\a<=4611686018427365000)/\L.length<=7/\(∀F∈L,F.Tn)/\
 ∀(b:Bool) (a':Int),(a<=a'/\a'<=a+1)->(b=true->0<L.length)->Q .normal ⟨[(0,.ptr 0 0),(3,.own 1 L.length),(22,.bool b)],(S_l4 n v a' L).O,2,[]⟩
def cutG(g:Nat->FL)(i:Nat):FL:=cutF (g i)
def cutT(g:Nat->RT)(i:Nat):RT:=wb4 (g i)
def wmz(g:Nat->FL)(n k:Nat)(F:FL)(c j:Nat):St:=⟨[(3,.own 0 k),(5,.ptr 1 0),(6,.ptr 2 0),(17,.view 7 n (waf g)),(18,.q n),(19,.q k),(43,.view 15 c (wad (atM F.ms))),(44,.q c),(45,.q j)],
 [(0,.row 49 7 k (waf (cutG g)) false),
  (1,.cells [.str F.id,.q F.ver,.q F.day,.q F.kind,.view 15 F.ms.length (wad (atM F.ms)),.view 5 F.rs.length (wae (atR F.rs)),.view 5 F.ts.length (wag (atT F.ts))] 49),
  (2,.cells [.str (F.id.take 30),.q F.ver,.q F.day,.q F.kind,.own 3 j,.nil,.nil] 49),
  (3,.row 40 15 j (wad (cutM (atM F.ms))) false)],4,[]⟩
def wpe(g:Nat->FL)(n k:Nat)(F:FL)(c:Nat):war:=λs Q=>canonIs te 0 [3,5,6,17,18,19,43,44,45] (ownNilP 6 4 40 15 s) (wmz g n k F c 0)/\c=min F.ms.length 3/\
 Q (.exit 2) ⟨[(3,.own 0 k),(5,.ptr 1 0),(6,.ptr 2 0),(17,.view 7 n (waf g)),(18,.q n),(19,.q k)],
 [(0,.row 49 7 k (waf (cutG g)) false),
  (1,.cells [.str F.id,.q F.ver,.q F.day,.q F.kind,.view 15 F.ms.length (wad (atM F.ms)),.view 5 F.rs.length (wae (atR F.rs)),.view 5 F.ts.length (wag (atT F.ts))] 49),
  (2,.cells [.str (F.id.take 30),.q F.ver,.q F.day,.q F.kind,.own 3 (cutF F).ms.length,.nil,.nil] 49),
  (3,.row 40 15 (cutF F).ms.length (wad (atM (cutF F).ms)) false)],4,[]⟩
def wmy(g:Nat->FL)(n k:Nat)(F:FL)(c j:Nat):St:=⟨[(3,.own 0 k),(5,.ptr 1 0),(6,.ptr 2 0),(17,.view 7 n (waf g)),(18,.q n),(19,.q k),(136,.view 5 c (wae (atR F.rs))),(137,.q c),(138,.q j)],
 [(0,.row 49 7 k (waf (cutG g)) false),
  (1,.cells [.str F.id,.q F.ver,.q F.day,.q F.kind,.view 15 F.ms.length (wad (atM F.ms)),.view 5 F.rs.length (wae (atR F.rs)),.view 5 F.ts.length (wag (atT F.ts))] 49),
  (2,.cells [.str (F.id.take 30),.q F.ver,.q F.day,.q F.kind,.own 3 (cutF F).ms.length,.own 4 j,.nil] 49),
  (3,.row 40 15 (cutF F).ms.length (wad (atM (cutF F).ms)) false),(4,.row 61 5 j (wae (cutR (atR F.rs))) false)],5,[]⟩
def wpd(g:Nat->FL)(n k:Nat)(F:FL)(c:Nat):war:=λs Q=>canonIs te 0 [3,5,6,17,18,19,136,137,138] (ownNilP 6 5 61 5 s) (wmy g n k F c 0)/\c=min F.rs.length 3/\
 Q (.exit 4) ⟨[(3,.own 0 k),(5,.ptr 1 0),(6,.ptr 2 0),(17,.view 7 n (waf g)),(18,.q n),(19,.q k)],
 [(0,.row 49 7 k (waf (cutG g)) false),
  (1,.cells [.str F.id,.q F.ver,.q F.day,.q F.kind,.view 15 F.ms.length (wad (atM F.ms)),.view 5 F.rs.length (wae (atR F.rs)),.view 5 F.ts.length (wag (atT F.ts))] 49),
  (2,.cells [.str (F.id.take 30),.q F.ver,.q F.day,.q F.kind,.own 3 (cutF F).ms.length,.own 4 (cutF F).rs.length,.nil] 49),
  (3,.row 40 15 (cutF F).ms.length (wad (atM (cutF F).ms)) false),(4,.row 61 5 (cutF F).rs.length (wae (atR (cutF F).rs)) false)],5,[]⟩
def whz(g:Nat->FL)(n k:Nat)(F:FL)(c j:Nat):St:=⟨[(3,.own 0 k),(6,.ptr 1 0),(17,.view 7 n (waf g)),(18,.q n),(19,.q k),(171,.view 5 c (wag (atT F.ts))),(172,.q c),(173,.q j)],
 [(0,.row 49 7 k (waf (cutG g)) false),
  (1,.cells [.str (F.id.take 30),.q F.ver,.q F.day,.q F.kind,.own 2 (cutF F).ms.length,.own 3 (cutF F).rs.length,.own 4 j] 49),
  (2,.row 40 15 (cutF F).ms.length (wad (atM (cutF F).ms)) false),(3,.row 61 5 (cutF F).rs.length (wae (atR (cutF F).rs)) false),(4,.row 97 5 j (wag (cutT (atT F.ts))) false)],5,[]⟩
def wpb(g:Nat->FL)(n k:Nat)(F:FL)(c:Nat):war:=λs Q=>canonIs te 0 [3,6,17,18,19,171,172,173] (ownNilP 6 6 97 5 s) (whz g n k F c 0)/\c=min F.ts.length 3/\
 Q (.exit 6) ⟨[(3,.own 0 k),(6,.ptr 1 0),(17,.view 7 n (waf g)),(18,.q n),(19,.q k)],
 [(0,.row 49 7 k (waf (cutG g)) false),
  (1,.cells [.str (F.id.take 30),.q F.ver,.q F.day,.q F.kind,.own 2 (cutF F).ms.length,.own 3 (cutF F).rs.length,.own 4 (cutF F).ts.length] 49),
  (2,.row 40 15 (cutF F).ms.length (wad (atM (cutF F).ms)) false),(3,.row 61 5 (cutF F).rs.length (wae (atR (cutF F).rs)) false),(4,.row 97 5 (cutF F).ts.length (wag (atT (cutF F).ts)) false)],5,[]⟩
def wtp(g:Nat->FL)(n k:Nat)(F:FL)(c j:Nat):St:=⟨[(3,.own 0 k),(6,.ptr 1 0),(17,.view 7 n (waf g)),(18,.q n),(19,.q k),(171,.view 5 c (wag (atT F.ts))),(172,.q c),(173,.q j)],
 (whz g n k F c (j+1)).O,5,[]⟩
def wpg(g:Nat->FL)(n k:Nat)(F:FL)(c j:Nat):war:=λs Q=>wkq 503 (wan (atB (wb4 (atT F.ts j)).bs)) s/\wlk 503 (rowFn 503 (wan (atB (wb4 (atT F.ts j)).bs)) s)/\
 canonIs te 0 [3,6,17,18,19,171,172,173] (frzX 503 [567] (rowFn 503 (wan (atB (wb4 (atT F.ts j)).bs)) s)) (wtp g n k F c j)/\j<=100/\Q .normal (whz g n k F c (j+1))
def wm0(g:Nat->FL)(n k:Nat)(F:FL):St:=⟨[(3,.own 0 k),(6,.ptr 1 0),(17,.view 7 n (waf g)),(18,.q n),(19,.q k)],
 [(0,.row 49 7 k (waf (cutG g)) false),
  (1,.cells [.str (cutF F).id,.q (cutF F).ver,.q (cutF F).day,.q (cutF F).kind,.view 15 (cutF F).ms.length (wad (atM (cutF F).ms)),.view 5 (cutF F).rs.length (wae (atR (cutF F).rs)),.view 5 (cutF F).ts.length (wag (atT (cutF F).ts))] 49)],2,[]⟩
def wfy(g:Nat->FL)(n k:Nat)(F:FL):St:=⟨[(3,.own 0 k),(6,.ptr 1 0),(17,.view 7 n (waf g)),(18,.q n),(19,.q k)],
 [(0,.row 49 7 k (waf (cutG g)) false),
  (1,.cells [.str (F.id.take 30),.q F.ver,.q F.day,.q F.kind,.own 2 (cutF F).ms.length,.own 3 (cutF F).rs.length,.own 4 (cutF F).ts.length] 49),
  (2,.row 40 15 (cutF F).ms.length (wad (atM (cutF F).ms)) false),(3,.row 61 5 (cutF F).rs.length (wae (atR (cutF F).rs)) false),(4,.row 97 5 (cutF F).ts.length (wag (atT (cutF F).ts)) false)],5,[]⟩
def wpf(g:Nat->FL)(n k:Nat)(F:FL):war:=λs Q=>canonIs te 0 [3,6,17,18,19] s (wfy g n k F)/\k<=100/\F=g k/\
 Q .normal ⟨[(3,.own 0 (k+1)),(17,.view 7 n (waf g)),(18,.q n),(19,.q k)],[(0,.row 49 7 (k+1) (waf (cutG g)) false)],1,[]⟩
def wm6(g:Nat->FL)(n k:Nat):St:=⟨[(3,.own 0 k),(17,.view 7 n (waf g)),(18,.q n),(19,.q k)],[(0,.row 49 7 k (waf (cutG g)) false)],1,[]⟩
def wpo(g:Nat->FL)(n:Nat):war:=λst Q=>canonIs te 0 [3,17,18,19] (ownNil 3 49 7 st) (wm6 g n 0)/\n<=6/\Q (.exit 0) ⟨[(3,.own 0 n)],[(0,.row 49 7 n (waf (cutG g)) false)],1,[]⟩
def wm3:Spec
 |[.view 7 n f],[]=>some (.view 7 (min n 6) (waf (cutG (flOf f))),[],f=waf (flOf f))
 |_,_=>none
end Go.Eng
namespace Go.Eng
open Go.Proofs Go.RowKit
variable {C:Ctx} [C.Loose]
set_option maxRecDepth 20000
theorem nf_rws(n:Nat)(v:Nat->Int)(a most:Int)(R:oR7):wpFn te [(37,.det wfw),(42,.det wbf)] [(3,wpc n v (a+1) (waa n v a (most+1)))] 0 Tryz.f79 [.ptr 0 0,.q most] [.cells [.view 1 n (wac v),.q a] 27] R=(letI z1:=(most+1);letI z0:=(RwS.mk 0 (λ(_x:Nat)=>default) (a+1));inR .i64 z1/\(27=27/\1=1/\wac v=wac (vInt (wac v))/\((1:Int)<=most+1/\most+1<=1000000)/\(0:Int)<=a/\a<=4611686018427387904)/\(TEq [(0,.ptr 0 0),(5,.own 1 0),(9,.q (waa n (vInt (wac v)) a z1)),(10,.q 0)] [(0,.ptr 0 0),(5,.own 1 0),(9,.q (waa n v a z1)),(10,.q (z0.c:Int))]/\wai [(0,.cells [.view 1 n (wac v),.q (a+1)] 27),(1,.row 61 5 0 (λ(_x:Nat)=>[]) false)] [(0,.cells [.view 1 n (wac v),.q z0.a] 27),(1,.row 61 5 0 (wae z0.g) false)])/\((0:Int)<=waa n v a z1/\waa n v a z1<=100)/\((0:Int)<=a+1/\a+1<=4611686018427375000)/\∀(i:RwS),i.c=(waa n v a z1).toNat->i.a=a+1+6 * (i.c:Int)->(∀(j:Nat),j<i.c->RW.Made (RwS.g i j))->(∀(i_1:Nat),i_1<i.c->true=true)/\∃(O':oL7),wai [(0,.cells [.view 1 n (wac v),.q i.a] 27),(1,.row 61 5 i.c (wae i.g) false)] O'/\R (.own 1 i.c) O'):=by kernel_rfl
theorem w21(n:Nat)(v:Nat->Int)(N:Int)(i:RwS)(P:RwS->Prop)(R:eR7):wa1 ⟨te,[(37,.det wfw)],[],1,19,0⟩ (wa2 Tryz.f79 3) [0,5,9,10] [5] [] (wmx n v N) P R (wmx n v N i)=(letI z0:=rowV n (vInt (wac v)) i.a;wab (decide ((i.c:Int)<N)) ((27=27/\1=1/\wac v=wac (vInt (wac v))/\(0:Int)<=i.a/\i.a<=4611686018427380000)/\(5<=16777216/\5=5/\1<=9223372036854775807)/\((1<=1/\5=5)/\i.c<=i.c/\5=5/\61=61/\5=5/\i.c+1<=9223372036854775807/\(i.c+1) * 56<=140737488355328)/\inR .i64 ((i.c:Int)+1)/\∃(i':RwS),(TEq [(0,.ptr 0 0),(5,.own 1 (i.c+1)),(9,.q N),(10,.q ((i.c:Int)+1))] [(0,.ptr 0 0),(5,.own 1 i'.c),(9,.q N),(10,.q (i'.c:Int))]/\wai [(0,.cells [.view 1 n (wac v),.q (i.a+1+1+1+1+1+1)] 27),(1,.row 61 5 (i.c+1) (apF i.c (wae i.g) (wap 5 (.str z0.o:: .str z0.p:: .q z0.per:: .q z0.u:: .q z0.tv::List.append [] wc1))) false)] [(0,.cells [.view 1 n (wac v),.q i'.a] 27),(1,.row 61 5 i'.c (wae i'.g) false)])/\P i') ((∀(i_1:Nat),i_1<i.c->true=true)/\∃(O':oL7),wai [(0,.cells [.view 1 n (wac v),.q i.a] 27),(1,.row 61 5 i.c (wae i.g) false)] O'/\R (.exit 0) (St.mk [(5,.own 1 i.c)] O' 2 []))):=by kernel_rfl
theorem put_ap(g:Nat->RW)(k:Nat)(r:RW)(ch:Nat->List AV)(hch:ch 0=[.str r.o,.str r.p,.q r.per,.q r.u,.q r.tv])(j:Nat)(hj:j<k+1):apF k (wae g) ch j=wae (RW.put g k r) j:=by
 unfold apF wae RW.put
 by_cases h:j<k
 .rw[if_pos h,if_pos h]
 .have:j=k:=by omega
  rw[if_neg h,if_neg h,this,Nat.sub_self,hch]
theorem w56(n:Nat)(v:Nat->Int)(a:Int):(rowV n v a).Made:=by
 obtain⟨b1,b2,b3,b4⟩:=wvc n v a;obtain⟨c1,c2⟩:=wrb n v a;exact⟨c1,c2,⟨b1,b2⟩,by omega,by omega⟩
theorem w01(hP:C.P=Tryz.prog)(n:Nat)(v:Nat->Int)(a N:Int):waj C 1 19 (wam Tryz.f79 3) (wpc n v a N):=by
 rintro st Q ⟨h0,hN,ha,hQ⟩;refine AWP.ownNil 5 61 5 ?_
 refine waj.mk (prg hP) [(37,.det wfw)] 0 (.cons (wql hP) .nil) [0,5,9,10] [5] [] (wmx n v N) (λi=>(i.c:Int)<=N/\i.a=a+6 * i.c/\∀j,j<i.c->(i.g j).Made) (λi=>N.toNat - i.c) ⟨0,λ_=>default,a⟩
  ⟨hN.1,by show a=a+6 * ((0:Nat):Int);omega,λj hj=>absurd hj (nZ7 j)⟩ h0 (λi hi=>?_) (λi=>⟨λ_ _=>rfl,trivial⟩)
 obtain⟨h1,h2,h3⟩:=hi;have hw:vInt (wac v)=v:=rfl;rw[w21,hw];refine wak (λq=>?_) (λq=>⟨λ_ _=>rfl,_,wau _,hQ i (by omega) h2 h3⟩);refine⟨⟨rfl,rfl,rfl,by omega,by omega⟩,⟨by omega,rfl,by omega⟩,⟨⟨lR7 _,rfl⟩,lR7 _,rfl,rfl,rfl,by omega,?_⟩,by simp only[inR];omega,⟨i.c+1,RW.put i.g i.c (rowV n v i.a),i.a+1+1+1+1+1+1⟩,⟨rfl,rfl,⟨rfl,rfl,rfl,rfl,rfl,λj hj=>?_⟩,trivial⟩,⟨?_,?_,λj hj=>?_⟩,?_⟩
 .show (i.c+1) * 56<=_;omega
 .exact put_ap i.g i.c _ _ rfl j hj
 .show ((i.c+1:Nat):Int)<=N;omega
 .show i.a+1+1+1+1+1+1=a+6 * ((i.c+1:Nat):Int);omega
 .show (RW.put i.g i.c (rowV n v i.a) j).Made;unfold RW.put
  by_cases h:j<i.c
  .rw[if_pos h];exact h3 j h
  .rw[if_neg h];exact w56 n v i.a
 .show N.toNat - (i.c+1)<N.toNat - i.c;omega
theorem rows_ok(hP:C.P=Tryz.prog):wa4 C 79 wov:=by
 rintro args objs R h;unfold wov at h;split at h
 .rename_i most sz n f a t;obtain⟨rfl,rfl,hf,ha,hm,hR⟩:=h;rw[hf] at hR ⊢;generalize vInt f=v at *;have hw:vInt (wac v)=v:=rfl;refine wa4.wpL (prg hP) [(37,.det wfw),(42,.det wbf)] [(3,wpc n v (a+1) (waa n v a (most+1)))] 0 (.cons (wql hP) (.cons (wcc hP) .nil)) (hP ▸ Tryz.func79) rfl rfl rfl [(wam Tryz.f79 3,wpc n v (a+1) (waa n v a (most+1)))] (by kernel_rfl) ⟨w01 hP _ _ _ _,trivial⟩ ?_;rw[nf_rws,hw];have r:=wa0 (show (1:Int)<=most+1 by omega) n v a;exact⟨by simp only[inR];omega,⟨rfl,rfl,rfl,⟨by omega,by omega⟩,by omega,by omega⟩,⟨rfl,rfl,⟨rfl,rfl,rfl,rfl,rfl,λi hi=>absurd hi (nZ7 i)⟩,trivial⟩,⟨by omega,by omega⟩,⟨by omega,by omega⟩,λi h1 h2 h3=>⟨λ_ _=>rfl,_,wau _,hR i.c i.g i.a (by omega) ⟨by omega,by omega⟩ h3⟩⟩
 .exact h.elim
theorem w4u(n:Nat)(v:Nat->Int)(a:Int)(R:oR7):wpFn te [(42,.det wbf)] [] 0 Tryz.f88 [.ptr 0 0] [.cells [.view 1 n (wac v),.q a] 27] R=(letI z0:=vInt (wac v);(3<=16777216/\1=1/\3<=9223372036854775807)/\(27=27/\1=1/\wac v=wac z0/\((1:Int)<=3/\(3:Int)<=1000000)/\(0:Int)<=a/\a<=4611686018427387904)/\((0:Int)<=waa n z0 a (3:Int)/\waa n z0 a (3:Int)<(↑3:Int))/\((waa n z0 a (3:Int)).toNat<3/\1=1)/\R (.str (List.getD [[(97:UInt8)],[(98:UInt8)],[(99:UInt8)]] (waa n z0 a (3:Int)).toNat [])) [(0,.cells [.view 1 n (wac v),.q (a+1)] 27)]):=by kernel_rfl
theorem wvy(n:Nat)(v:Nat->Int)(a:Int)(R:oR7):wpFn te [(42,.det wbf),(80,.det wdc),(81,.det wdb),(43,.det S_id)] [] 3 Tryz.f89 [.ptr 0 0] [.cells [.view 1 n (wac v),.q a] 27] R=(letI z20:=((1:Int)<=4/\(4:Int)<=1000000:Prop);letI z19:=4611686018427387904;letI z18:=4611686018427387000;letI z16:=((48:Int)+(cdF (id7 (4:Int))).1).toNat;letI z14:=([(0,.cells [.view 1 n (wac v),.q (a+1+1+1+1+1+1+1)] 27)]:oL7);letI z12:=(a+1+1);letI z11:=(a+1+1+1+1);letI z10:=(a+1+1+1);letI z9:=(idV (4:Int));letI z7:=(a+1+1+1+1+1+1);letI z17:=([(0,.cells [.view 1 n (wac v),.q z7] 27)]:oL7);letI z6:=(a+1+1+1+1+1);letI z5:=vInt (wac v);letI z13:=(outF (waa n z5 a (3:Int)));letI z8:=(waa n z5 (a+1) (4:Int));letI z4:=(waa n z5 z11 (7:Int)).toNat;letI z15:=(decide ((1:Int)+List.getD [(0:Int),(0:Int),(0:Int),(1:Int),(2:Int),(3:Int),(4:Int)] z4 (0:Int)=5));letI z3:=((True/\True)/\R (.agg [.str z13,.str (idF z8),.q ((1440:Int)+waa n z5 z12 (4:Int)),.q ((43830:Int)+waa n z5 z10 (100:Int)),.q ((1:Int)+List.getD [(0:Int),(0:Int),(0:Int),(1:Int),(2:Int),(3:Int),(4:Int)] z4 (0:Int)),.q 0,.str [(λ(i:Nat)=>UInt8.ofNat (wao (List.headD (wbd z9 i) .any)).toNat) (nat_lit 0),(λ(i:Nat)=>UInt8.ofNat (wao (List.headD (wbd z9 i) .any)).toNat) (nat_lit 1),(λ(i:Nat)=>UInt8.ofNat (wao (List.headD (wbd z9 i) .any)).toNat) (nat_lit 2),(λ(i:Nat)=>UInt8.ofNat (wao (List.headD (wbd z9 i) .any)).toNat) (nat_lit 3),(λ(i:Nat)=>UInt8.ofNat (wao (List.headD (wbd z9 i) .any)).toNat) (nat_lit 4),(λ(i:Nat)=>UInt8.ofNat (wao (List.headD (wbd z9 i) .any)).toNat) (nat_lit 5),(λ(i:Nat)=>UInt8.ofNat (wao (List.headD (wbd z9 i) .any)).toNat) (nat_lit 6),UInt8.ofNat z16]]) z17:Prop);letI z2:=((True/\True)/\R (.agg [.str z13,.str (idF z8),.q ((1440:Int)+waa n z5 z12 (4:Int)),.q ((43830:Int)+waa n z5 z10 (100:Int)),.q ((1:Int)+List.getD [(0:Int),(0:Int),(0:Int),(1:Int),(2:Int),(3:Int),(4:Int)] z4 (0:Int)),.q ((100:Int)+waa n z5 z6 (4:Int) * (5:Int)),.str [(λ(i:Nat)=>UInt8.ofNat (wao (List.headD (wbd z9 i) .any)).toNat) (nat_lit 0),(λ(i:Nat)=>UInt8.ofNat (wao (List.headD (wbd z9 i) .any)).toNat) (nat_lit 1),(λ(i:Nat)=>UInt8.ofNat (wao (List.headD (wbd z9 i) .any)).toNat) (nat_lit 2),(λ(i:Nat)=>UInt8.ofNat (wao (List.headD (wbd z9 i) .any)).toNat) (nat_lit 3),(λ(i:Nat)=>UInt8.ofNat (wao (List.headD (wbd z9 i) .any)).toNat) (nat_lit 4),(λ(i:Nat)=>UInt8.ofNat (wao (List.headD (wbd z9 i) .any)).toNat) (nat_lit 5),(λ(i:Nat)=>UInt8.ofNat (wao (List.headD (wbd z9 i) .any)).toNat) (nat_lit 6),UInt8.ofNat z16]]) z14:Prop);letI z1:=(decide ([(λ(i:Nat)=>UInt8.ofNat (wao (List.headD (wbd z9 i) .any)).toNat) (nat_lit 0),(λ(i:Nat)=>UInt8.ofNat (wao (List.headD (wbd z9 i) .any)).toNat) (nat_lit 1),(λ(i:Nat)=>UInt8.ofNat (wao (List.headD (wbd z9 i) .any)).toNat) (nat_lit 2),(λ(i:Nat)=>UInt8.ofNat (wao (List.headD (wbd z9 i) .any)).toNat) (nat_lit 3),(λ(i:Nat)=>UInt8.ofNat (wao (List.headD (wbd z9 i) .any)).toNat) (nat_lit 4),(λ(i:Nat)=>UInt8.ofNat (wao (List.headD (wbd z9 i) .any)).toNat) (nat_lit 5),(λ(i:Nat)=>UInt8.ofNat (wao (List.headD (wbd z9 i) .any)).toNat) (nat_lit 6),UInt8.ofNat z16]=idF z8));letI z0:=(wab z15 ((27=27/\1=1/\wac v=wac z5/\(0:Int)<=a+1+1+1+1+1/\a+1+1+1+1+1<=z18)/\wab (decide (idF (waa n z5 z6 (4:Int))=idF z8)) (True/\wab z1 (True/\wab z1 (True/\False) z3) z3) ((True/\True)/\R (.agg [.str z13,.str (idF z8),.q ((1440:Int)+waa n z5 z12 (4:Int)),.q ((43830:Int)+waa n z5 z10 (100:Int)),.q ((1:Int)+List.getD [(0:Int),(0:Int),(0:Int),(1:Int),(2:Int),(3:Int),(4:Int)] z4 (0:Int)),.q 0,.str (idF (waa n z5 z6 (4:Int)))]) z17)) ((True/\True)/\R (.agg [.str z13,.str (idF z8),.q ((1440:Int)+waa n z5 z12 (4:Int)),.q ((43830:Int)+waa n z5 z10 (100:Int)),.q ((1:Int)+List.getD [(0:Int),(0:Int),(0:Int),(1:Int),(2:Int),(3:Int),(4:Int)] z4 (0:Int)),.q 0,.str []]) [(0,.cells [.view 1 n (wac v),.q z6] 27)]));(27=27/\1=1/\wac v=wac z5/\(0:Int)<=a/\a<=z18)/\(27=27/\1=1/\wac v=wac z5/\(0:Int)<=a+1/\a+1<=z18)/\(27=27/\1=1/\wac v=wac z5/\z20/\(0:Int)<=a+1+1/\a+1+1<=z19)/\inR .i64 ((1440:Int)+waa n z5 z12 (4:Int))/\(27=27/\1=1/\wac v=wac z5/\((1:Int)<=100/\(100:Int)<=1000000)/\(0:Int)<=a+1+1+1/\a+1+1+1<=z19)/\inR .i64 ((43830:Int)+waa n z5 z10 (100:Int))/\(7<=16777216/\1=1/\7<=9223372036854775807)/\(27=27/\1=1/\wac v=wac z5/\((1:Int)<=7/\(7:Int)<=1000000)/\(0:Int)<=a+1+1+1+1/\a+1+1+1+1<=z19)/\((0:Int)<=waa n z5 z11 (7:Int)/\waa n z5 z11 (7:Int)<(↑7:Int))/\((waa n z5 z11 (7:Int)).toNat<7/\1=1)/\inR .i64 ((1:Int)+List.getD [(0:Int),(0:Int),(0:Int),(1:Int),(2:Int),(3:Int),(4:Int)] z4 (0:Int))/\wab (!decide ((1:Int)+List.getD [(0:Int),(0:Int),(0:Int),(1:Int),(2:Int),(3:Int),(4:Int)] z4 (0:Int)=3)) (wab (!decide ((1:Int)+List.getD [(0:Int),(0:Int),(0:Int),(1:Int),(2:Int),(3:Int),(4:Int)] z4 (0:Int)=4)) ((27=27/\1=1/\wac v=wac z5/\z20/\(0:Int)<=a+1+1+1+1+1/\a+1+1+1+1+1<=z19)/\inR .i64 (waa n z5 z6 (4:Int) * (5:Int))/\inR .i64 ((100:Int)+waa n z5 z6 (4:Int) * (5:Int))/\wab z15 ((27=27/\1=1/\wac v=wac z5/\(0:Int)<=a+1+1+1+1+1+1/\a+1+1+1+1+1+1<=z18)/\wab (decide (idF (waa n z5 z7 (4:Int))=idF z8)) (True/\wab z1 (True/\wab z1 (True/\False) z2) z2) ((True/\True)/\R (.agg [.str z13,.str (idF z8),.q ((1440:Int)+waa n z5 z12 (4:Int)),.q ((43830:Int)+waa n z5 z10 (100:Int)),.q ((1:Int)+List.getD [(0:Int),(0:Int),(0:Int),(1:Int),(2:Int),(3:Int),(4:Int)] z4 (0:Int)),.q ((100:Int)+waa n z5 z6 (4:Int) * (5:Int)),.str (idF (waa n z5 z7 (4:Int)))]) z14)) ((True/\True)/\R (.agg [.str z13,.str (idF z8),.q ((1440:Int)+waa n z5 z12 (4:Int)),.q ((43830:Int)+waa n z5 z10 (100:Int)),.q ((1:Int)+List.getD [(0:Int),(0:Int),(0:Int),(1:Int),(2:Int),(3:Int),(4:Int)] z4 (0:Int)),.q ((100:Int)+waa n z5 z6 (4:Int) * (5:Int)),.str []]) z17)) z0) z0):=by kernel_rfl
theorem nf_mmsg(n:Nat)(v:Nat->Int)(a:Int)(R:oR7):wpFn te [(42,.det wbf),(80,.det wdc),(81,.det wdb),(88,.det wib),(89,.rel woo)] [] 0 Tryz.f36 [.ptr 0 0] [.cells [.view 1 n (wac v),.q a] 27] R=(letI z5:=((1:Int)<=9/\(9:Int)<=1000000:Prop);letI z4:=(a+1+1+1+1+1);letI z3:=4611686018427387904;letI z2:=4611686018427387000;letI z1:=(a+1+1+1+1+1+1+1);letI z0:=vInt (wac v);(27=27/\1=1/\wac v=wac z0/\(0:Int)<=a/\a<=z2)/\(27=27/\1=1/\wac v=wac z0/\z5/\(0:Int)<=a+1/\a+1<=z3)/\inR .i64 ((1:Int)+waa n z0 (a+1) (9:Int))/\(27=27/\1=1/\wac v=wac z0/\((1:Int)<=5/\(5:Int)<=1000000)/\(0:Int)<=a+1+1/\a+1+1<=z3)/\wab (decide (waa n z0 (a+1+1) (5:Int)=0)) ((27=27/\1=1/\wac v=wac z0/\(0:Int)<=a+1+1+1/\a+1+1+1<=z2)/\(27=27/\1=1/\wac v=wac z0/\(0:Int)<=a+1+1+1+1/\a+1+1+1+1<=z2)/\(27=27/\1=1/\wac v=wac z0/\((1:Int)<=4/\(4:Int)<=1000000)/\(0:Int)<=a+1+1+1+1+1/\a+1+1+1+1+1<=z3)/\inR .i64 ((1440:Int)+waa n z0 z4 (4:Int))/\(27=27/\1=1/\wac v=wac z0/\(0:Int)<=a+1+1+1+1+1+1/\a+1+1+1+1+1+1<=z2)/\(27=27/\1=1/\wac v=wac z0/\z5/\(0:Int)<=a+1+1+1+1+1+1+1/\a+1+1+1+1+1+1+1<=z3)/\inR .i64 ((1:Int)+waa n z0 z1 (9:Int))/\(True/\True)/\R (.agg [.str (devF (waa n z0 a (3:Int))),.q ((1:Int)+waa n z0 (a+1) (9:Int)),.q 2,.str [],.str [],.q 0,.q 0,.q 0,.q 0,.str [],.str (outF (waa n z0 (a+1+1+1) (3:Int))),.str (idF (waa n z0 (a+1+1+1+1) (4:Int))),.q ((1440:Int)+waa n z0 z4 (4:Int)),.str (devF (waa n z0 (a+1+1+1+1+1+1) (3:Int))),.q ((1:Int)+waa n z0 z1 (9:Int))]) [(0,.cells [.view 1 n (wac v),.q (a+1+1+1+1+1+1+1+1)] 27)]) (27=27/\1=1/\wac v=wac z0/\((0:Int)<=a+1+1+1/\a+1+1+1<=4611686018427386000)/\∀(x:VT) (a':Int),VT.Made x->a+1+1+1<=a'/\a'<=a+1+1+1+7->(True/\True)/\R (.agg [.str (devF (waa n z0 a (3:Int))),.q ((1:Int)+waa n z0 (a+1) (9:Int)),.q 1,.str x.o,.str x.p,.q x.per,.q x.day,.q x.st,.q x.pr,.str x.rep,.str [],.str [],.q 0,.str [],.q 0]) [(0,.cells [.view 1 n (wac v),.q a'] 27)])):=by kernel_rfl
theorem wyv(hP:C.P=Tryz.prog):wah C 88 wib:=by
 rintro args objs U Os vc h hvc;unfold wib at h;split at h<;>cases h;rename_i sz n f a t;obtain⟨rfl,rfl,hf,h1,h2⟩:=hvc;rw[hf];generalize vInt f=v;have hw:vInt (wac v)=v:=rfl;refine wah.wp0 (prg hP) [(42,.det wbf)] 0 (.cons (wcc hP) .nil) (hP ▸ Tryz.func88) rfl rfl rfl ?_;rw[w4u];have r:=wa0 (show (1:Int)<=3 by omega) n v a;exact⟨⟨by omega,rfl,by omega⟩,⟨rfl,rfl,rfl,⟨by omega,by omega⟩,by omega,by omega⟩,⟨r.1,r.2⟩,⟨by rw[hw];omega,rfl⟩,rfl,rfl⟩
theorem stF:∀i:Nat,i<7->1<=1+List.getD [(0:Int),0,0,1,2,3,4] i 0/\1+List.getD [(0:Int),0,0,1,2,3,4] i 0<=5:=by decide
theorem wlg{x:Int}(h:0<=x/\x<4):¬ idF 4=idF x:=by
 have:=idF4 x.toNat (by omega)
 rwa [show ((x.toNat:Nat):Int)=x by omega] at this
theorem wt2{o p:List UInt8}{per day st pr:Int}{rep:List UInt8}(ho:wa5 o=true)(hp:wbc p=true)(hper:0<=per/\per<=5999)(hday:0<=day/\day<=182620)
  (h:((st=1∨st=2)/\(1<=pr/\pr<=1099511627776)/\rep=[])∨((st=3∨st=4)/\pr=0/\rep=[])∨(st=5/\(1<=pr/\pr<=1099511627776)/\wbc rep=true/\¬ rep=p)):visF ⟨o,p,per,day,st,pr,rep⟩=true:=by
 unfold visF wbi;dsimp only
 rw[ho,hp,decide_eq_true hper.1,decide_eq_true hper.2,decide_eq_true hday.1,decide_eq_true hday.2]
 rcases h with⟨q | q,⟨h1,h2⟩,h3⟩ | ⟨q | q,h1,h2⟩ | ⟨q,⟨h1,h2⟩,h3,h4⟩
 .subst q;subst h3;rw[decide_eq_true h1,decide_eq_true h2];rfl
 .subst q;subst h3;rw[decide_eq_true h1,decide_eq_true h2];rfl
 .subst q;subst h1;subst h2;rfl
 .subst q;subst h1;subst h2;rfl
 .subst q;rw[decide_eq_true h1,decide_eq_true h2,h3,decide_eq_false h4];rfl
theorem wv4{dev:List UInt8}{seq:Int}{x:VT}(hd:wa5 dev=true)(hs:1<=seq/\seq<=1048576)(hx:visF x=true):msgF ⟨dev,seq,1,x,⟨[],[],0,[],0⟩⟩=0:=by
 unfold msgF numF;dsimp only
 rw[hd,hx,decide_eq_true hs.1,decide_eq_true hs.2];rfl
theorem wv5{dev:List UInt8}{seq:Int}{o p:List UInt8}{per:Int}{dd:List UInt8}{num:Int}(hd:wa5 dev=true)(hs:1<=seq/\seq<=1048576)(h:wbi o p per=true)(h':wa5 dd=true)(hn:1<=num/\num<=1048576):
  msgF ⟨dev,seq,2,⟨[],[],0,0,0,0,[]⟩,⟨o,p,per,dd,num⟩⟩=0:=by
 unfold msgF numF;dsimp only
 rw[hd,h,h',decide_eq_true hs.1,decide_eq_true hs.2,decide_eq_true hn.1,decide_eq_true hn.2];rfl
theorem wuu{o p:List UInt8}{per:Int}(ho:wa5 o=true)(hp:wbc p=true)(hper:0<=per/\per<=5999):wbi o p per=true:=by
 unfold wbi;rw[ho,hp,decide_eq_true hper.1,decide_eq_true hper.2];rfl
theorem w5q(hP:C.P=Tryz.prog):wa4 C 89 woo:=by
 rintro args objs R h;unfold woo at h;split at h
 .rename_i sz n f a t;obtain⟨rfl,rfl,hf,ha,hR⟩:=h;rw[hf] at hR ⊢;generalize vInt f=v at *;have hw:vInt (wac v)=v:=rfl;refine wa4.wpL (prg hP) [(42,.det wbf),(80,.det wdc),(81,.det wdb),(43,.det S_id)] [] 3 (.cons (wcc hP) (.cons (whe hP) (.cons (wg4 hP) (.cons (wlf hP) .nil)))) (hP ▸ Tryz.func89) rfl rfl rfl [] (by kernel_rfl) trivial ?_;rw[wvy,hw];have r1:=wa0 (show (1:Int)<=3 by omega) n v a;have r2:=wa0 (show (1:Int)<=4 by omega) n v (a+1);have r3:=wa0 (show (1:Int)<=4 by omega) n v (a+1+1);have r4:=wa0 (show (1:Int)<=100 by omega) n v (a+1+1+1);have r5:=wa0 (show (1:Int)<=7 by omega) n v (a+1+1+1+1);have r6:=wa0 (show (1:Int)<=4 by omega) n v (a+1+1+1+1+1);have hst:=stF (waa n v (a+1+1+1+1) 7).toNat (by omega);have ho:=wi6 (waa n v a 3).toNat (by omega);have key:∀(st pr:Int) (rep:List UInt8) (a':Int),(((st=1∨st=2)/\(1<=pr/\pr<=1099511627776)/\rep=[])∨((st=3∨st=4)/\pr=0/\rep=[])∨(st=5/\(1<=pr/\pr<=1099511627776)/\wbc rep=true/\¬ rep=idF (waa n v (a+1) 4)))->(a<=a'/\a'<=a+7)->
    R (.agg [.str (outF (waa n v a 3)),.str (idF (waa n v (a+1) 4)),.q (1440+waa n v (a+1+1) 4),.q (43830+waa n v (a+1+1+1) 100),.q st,.q pr,.str rep]) [(0,.cells [.view 1 n (wac v),.q a'] 27)]:=λst pr rep a' h1 h2=>
   hR ⟨outF (waa n v a 3),idF (waa n v (a+1) 4),1440+waa n v (a+1+1) 4,43830+waa n v (a+1+1+1) 100,st,pr,rep⟩ a' ⟨wt2 ho.1 (wd9 _) (by omega) (by omega) h1,ho.2⟩ h2
  refine⟨⟨rfl,rfl,rfl,by omega,by omega⟩,⟨rfl,rfl,rfl,by omega,by omega⟩,⟨rfl,rfl,rfl,⟨by omega,by omega⟩,by omega,by omega⟩,by simp only[inR];omega,⟨rfl,rfl,rfl,⟨by omega,by omega⟩,by omega,by omega⟩,by simp only[inR];omega,⟨by omega,rfl,by omega⟩,⟨rfl,rfl,rfl,⟨by omega,by omega⟩,by omega,by omega⟩,⟨by omega,by omega⟩,⟨by omega,rfl⟩,?_⟩;generalize 1+List.getD [(0:Int),0,0,1,2,3,4] (waa n v (a+1+1+1+1) 7).toNat 0=st at *
  refine⟨by simp only[inR];omega,wa7 (λs3=>wa7 (λs4=>⟨⟨rfl,rfl,rfl,⟨by omega,by omega⟩,by omega,by omega⟩,by simp only[inR];omega,by simp only[inR];omega,wak (λs5=>⟨⟨rfl,rfl,rfl,by omega,by omega⟩,wak (λq=>⟨trivial,wak (λq'=>absurd q' (wlg r2)) (λq'=>⟨⟨trivial,trivial⟩,?_⟩)⟩) (λq=>⟨⟨trivial,trivial⟩,?_⟩)⟩) (λs5=>⟨⟨trivial,trivial⟩,?_⟩)⟩)
   (λs4=>wak (λs5=>absurd s5 (by omega)) (λs5=>⟨⟨trivial,trivial⟩,?_⟩))) (λs3=>wak (λs5=>absurd s5 (by omega)) (λs5=>⟨⟨trivial,trivial⟩,?_⟩))⟩
  .exact key st _ (idF 4) _ (.inr (.inr ⟨s5,by omega,wd9 _,wlg r2⟩)) (by omega)
  .exact key st _ _ _ (.inr (.inr ⟨s5,by omega,wd9 _,q⟩)) (by omega)
  .exact key st _ _ _ (.inl ⟨by omega,by omega,rfl⟩) (by omega)
  .exact key st _ _ _ (.inr (.inl ⟨by omega,rfl,rfl⟩)) (by omega)
  .exact key st _ _ _ (.inr (.inl ⟨by omega,rfl,rfl⟩)) (by omega)
 .exact h.elim
theorem wwd (hP : C.P = Tryz.prog) : wa4 C 36 wii := by
  rintro args objs R h
  unfold wii at h
  split at h
  · rename_i sz n f a t
    obtain ⟨rfl, rfl, hf, ha, hR⟩ := h
    rw [hf] at hR ⊢
    generalize vInt f = v at *
    have hw : vInt (wac v) = v := rfl
    refine wa4.wpL (prg hP) [(42, .det wbf), (80, .det wdc), (81, .det wdb), (88, .det wib), (89, .rel woo)] [] 0 (.cons (wcc hP) (.cons (whe hP) (.cons (wg4 hP) (.cons (wyv hP) (.cons (w5q hP) .nil))))) (hP ▸ Tryz.func36) rfl rfl rfl [] (by kernel_rfl) trivial ?_
    rw [nf_mmsg, hw]
    have r1 := wa0 (show (1 : Int) ≤ 3 by omega) n v a
    have r2 := wa0 (show (1 : Int) ≤ 9 by omega) n v (a + 1)
    have r4 := wa0 (show (1 : Int) ≤ 3 by omega) n v (a + 1 + 1 + 1)
    have r6 := wa0 (show (1 : Int) ≤ 4 by omega) n v (a + 1 + 1 + 1 + 1 + 1)
    have r7 := wa0 (show (1 : Int) ≤ 3 by omega) n v (a + 1 + 1 + 1 + 1 + 1 + 1)
    have r8 := wa0 (show (1 : Int) ≤ 9 by omega) n v (a + 1 + 1 + 1 + 1 + 1 + 1 + 1)
    have hd := wl0 (waa n v a 3).toNat (by omega)
    have ho := wi6 (waa n v (a + 1 + 1 + 1) 3).toNat (by omega)
    have hd' := wl0 (waa n v (a + 1 + 1 + 1 + 1 + 1 + 1) 3).toNat (by omega)
    refine ⟨⟨rfl, rfl, rfl, by omega, by omega⟩, ⟨rfl, rfl, rfl, ⟨by omega, by omega⟩, by omega, by omega⟩, by simp only [inR]; omega, ⟨rfl, rfl, rfl, ⟨by omega, by omega⟩, by omega, by omega⟩, wak (fun q => ⟨⟨rfl, rfl, rfl, by omega, by omega⟩, ⟨rfl, rfl, rfl, by omega, by omega⟩, ⟨rfl, rfl, rfl, ⟨by omega, by omega⟩, by omega, by omega⟩, by simp only [inR]; omega, ⟨rfl, rfl, rfl, by omega, by omega⟩, ⟨rfl, rfl, rfl, ⟨by omega, by omega⟩, by omega, by omega⟩, by simp only [inR]; omega, ⟨trivial, trivial⟩, ?_⟩)
      (fun q => ⟨rfl, rfl, rfl, ⟨by omega, by omega⟩, fun x a' hx ha' => ⟨⟨trivial, trivial⟩, ?_⟩⟩)⟩
    · exact hR ⟨devF (waa n v a 3), 1 + waa n v (a + 1) 9, 2, ⟨[], [], 0, 0, 0, 0, []⟩, ⟨outF (waa n v (a + 1 + 1 + 1) 3), idF (waa n v (a + 1 + 1 + 1 + 1) 4), 1440 + waa n v (a + 1 + 1 + 1 + 1 + 1) 4, devF (waa n v (a + 1 + 1 + 1 + 1 + 1 + 1) 3), 1 + waa n v (a + 1 + 1 + 1 + 1 + 1 + 1 + 1) 9⟩⟩ _
        ⟨wv5 hd.1 (by omega) (wuu ho.1 (wd9 _) (by omega)) hd'.1 (by omega), hd.2, zL7 _, ho.2, hd'.2⟩ (by omega)
    · exact hR ⟨devF (waa n v a 3), 1 + waa n v (a + 1) 9, 1, x, ⟨[], [], 0, [], 0⟩⟩ a' ⟨wv4 hd.1 (by omega) hx.ok, hd.2, hx.o, zL7 _, zL7 _⟩ (by omega)
  · exact h.elim
theorem nf_msgs(n:Nat)(v:Nat->Int)(a most:Int)(R:oR7):wpFn te [(36,.rel wii),(42,.det wbf)] [(3,wpy n v (a+1) (waa n v a (most+1)))] 0 Tryz.f59 [.ptr 0 0,.q most] [.cells [.view 1 n (wac v),.q a] 27] R=(letI z1:=(most+1);letI z0:=(MgS.mk 0 (λ(_x:Nat)=>default) (a+1));inR .i64 z1/\(27=27/\1=1/\wac v=wac (vInt (wac v))/\((1:Int)<=most+1/\most+1<=1000000)/\(0:Int)<=a/\a<=4611686018427387904)/\(TEq [(0,.ptr 0 0),(5,.own 1 0),(9,.q (waa n (vInt (wac v)) a z1)),(10,.q 0)] [(0,.ptr 0 0),(5,.own 1 0),(9,.q (waa n v a z1)),(10,.q (z0.c:Int))]/\wai [(0,.cells [.view 1 n (wac v),.q (a+1)] 27),(1,.row 40 15 0 (λ(_x:Nat)=>[]) false)] [(0,.cells [.view 1 n (wac v),.q z0.a] 27),(1,.row 40 15 0 (wad z0.g) false)])/\((0:Int)<=waa n v a z1/\waa n v a z1<=100)/\((0:Int)<=a+1/\a+1<=4611686018427375000)/\∀(i:MgS),i.c=(waa n v a z1).toNat->a+1<=i.a/\i.a<=a+1+10 * (i.c:Int)->(∀(j:Nat),j<i.c->MG.Made (MgS.g i j))->(∀(i_1:Nat),i_1<i.c->true=true)/\∃(O':oL7),wai [(0,.cells [.view 1 n (wac v),.q i.a] 27),(1,.row 40 15 i.c (wad i.g) false)] O'/\R (.own 1 i.c) O'):=by kernel_rfl
theorem w35(n:Nat)(v:Nat->Int)(N:Int)(i:MgS)(P:MgS->Prop)(R:eR7):wa1 ⟨te,[(36,.rel wii)],[],1,19,0⟩ (wa2 Tryz.f59 3) [0,5,9,10] [5] [] (wnk n v N) P R (wnk n v N i)=(wab (decide ((i.c:Int)<N)) (27=27/\1=1/\wac v=wac (vInt (wac v))/\((0:Int)<=i.a/\i.a<=4611686018427385000)/\∀(m:MG) (a':Int),MG.Made m->i.a<=a'/\a'<=i.a+10->(15<=16777216/\15=15/\1<=9223372036854775807)/\((1<=1/\15=15)/\i.c<=i.c/\15=15/\40=40/\15=15/\i.c+1<=9223372036854775807/\(i.c+1) * 176<=140737488355328)/\inR .i64 ((i.c:Int)+1)/\∃(i':MgS),(TEq [(0,.ptr 0 0),(5,.own 1 (i.c+1)),(9,.q N),(10,.q ((i.c:Int)+1))] [(0,.ptr 0 0),(5,.own 1 i'.c),(9,.q N),(10,.q (i'.c:Int))]/\wai [(0,.cells [.view 1 n (wac v),.q a'] 27),(1,.row 40 15 (i.c+1) (apF i.c (wad i.g) (wap 15 (.str m.dev:: .q m.seq:: .q m.kind:: .str m.v.o:: .str m.v.p:: .q m.v.per:: .q m.v.day:: .q m.v.st:: .q m.v.pr:: .str m.v.rep:: .str m.d.o:: .str m.d.p:: .q m.d.per:: .str m.d.dev:: .q m.d.num::List.append [] wiw))) false)] [(0,.cells [.view 1 n (wac v),.q i'.a] 27),(1,.row 40 15 i'.c (wad i'.g) false)])/\P i') ((∀(i_1:Nat),i_1<i.c->true=true)/\∃(O':oL7),wai [(0,.cells [.view 1 n (wac v),.q i.a] 27),(1,.row 40 15 i.c (wad i.g) false)] O'/\R (.exit 0) (St.mk [(5,.own 1 i.c)] O' 2 []))):=by kernel_rfl
theorem mput_ap(g:Nat->MG)(k:Nat)(r:MG)(ch:Nat->List AV)(hch:ch 0=mgC r)(j:Nat)(_hj:j<k+1):apF k (wad g) ch j=wad (MG.put g k r) j:=by
 unfold apF wad MG.put
 by_cases h:j<k
 .rw[if_pos h,if_pos h]
 .have:j=k:=by omega
  rw[if_neg h,if_neg h,this,Nat.sub_self,hch];rfl
theorem w5r(hP:C.P=Tryz.prog)(n:Nat)(v:Nat->Int)(a N:Int):waj C 1 19 (wam Tryz.f59 3) (wpy n v a N):=by
 rintro st Q ⟨h0,hN,ha,hQ⟩;refine AWP.ownNil 5 40 15 ?_
 refine waj.mk (prg hP) [(36,.rel wii)] 0 (.cons (wwd hP) .nil) [0,5,9,10] [5] [] (wnk n v N) (λi=>(i.c:Int)<=N/\(a<=i.a/\i.a<=a+10 * i.c)/\∀j,j<i.c->(i.g j).Made) (λi=>N.toNat - i.c) ⟨0,λ_=>default,a⟩
  ⟨hN.1,by show a<=a/\a<=a+10 * ((0:Nat):Int);omega,λj hj=>absurd hj (nZ7 j)⟩ h0 (λi hi=>?_) (λi=>⟨λ_ _=>rfl,trivial⟩)
 obtain⟨h1,h2,h3⟩:=hi;rw[w35];refine wak (λq=>?_) (λq=>⟨λ_ _=>rfl,_,wau _,hQ i (by omega) h2 h3⟩);refine⟨rfl,rfl,rfl,by omega,λm a' hm ha'=>⟨⟨by omega,rfl,by omega⟩,⟨⟨lR7 _,rfl⟩,lR7 _,rfl,rfl,rfl,by omega,?_⟩,by simp only[inR];omega,⟨i.c+1,MG.put i.g i.c m,a'⟩,⟨rfl,rfl,⟨rfl,rfl,rfl,rfl,rfl,λj hj=>?_⟩,trivial⟩,⟨?_,?_,λj hj=>?_⟩,?_⟩⟩
 .show (i.c+1) * 176<=_;omega
 .exact mput_ap i.g i.c m _ rfl j hj
 .show ((i.c+1:Nat):Int)<=N;omega
 .show a<=a'/\a'<=a+10 * ((i.c+1:Nat):Int);omega
 .show (MG.put i.g i.c m j).Made;unfold MG.put
  by_cases h:j<i.c
  .rw[if_pos h];exact h3 j h
  .rw[if_neg h];exact hm
 .show N.toNat - (i.c+1)<N.toNat - i.c;omega
theorem msgs_ok(hP:C.P=Tryz.prog):wa4 C 59 woy:=by
 rintro args objs R h;unfold woy at h;split at h
 .rename_i most sz n f a t;obtain⟨rfl,rfl,hf,ha,hm,hR⟩:=h;rw[hf] at hR ⊢;generalize vInt f=v at *;have hw:vInt (wac v)=v:=rfl;refine wa4.wpL (prg hP) [(36,.rel wii),(42,.det wbf)] [(3,wpy n v (a+1) (waa n v a (most+1)))] 0 (.cons (wwd hP) (.cons (wcc hP) .nil)) (hP ▸ Tryz.func59) rfl rfl rfl [(wam Tryz.f59 3,wpy n v (a+1) (waa n v a (most+1)))] (by kernel_rfl) ⟨w5r hP _ _ _ _,trivial⟩ ?_;rw[nf_msgs,hw];have r:=wa0 (show (1:Int)<=most+1 by omega) n v a;exact⟨by simp only[inR];omega,⟨rfl,rfl,rfl,⟨by omega,by omega⟩,by omega,by omega⟩,⟨rfl,rfl,⟨rfl,rfl,rfl,rfl,rfl,λi hi=>absurd hi (nZ7 i)⟩,trivial⟩,⟨by omega,by omega⟩,⟨by omega,by omega⟩,λi h1 h2 h3=>⟨λ_ _=>rfl,_,wau _,hR i.c i.g i.a (by omega) ⟨by omega,by omega⟩ h3⟩⟩
 .exact h.elim
theorem mrgV_ok(hP:C.P=Tryz.prog)(hL:∀w,C.laid w->LaidW w):wah C 61 wnl:=by
 rintro args objs U Os vc hh hvc;unfold wnl at hh;split at hh<;>simp only[sI7,pI7,reduceCtorEq] at hh;rename_i n f m h;obtain⟨rfl,rfl,rfl⟩:=hh;refine wal.frzO 0 (wal.mono (mrg_ok hP hL [.view 15 n f,.view 15 m h] [] _ _ _ rfl hvc) ?_);rintro u O ⟨rfl,rfl⟩;have hb:Nat.ble (mrgL (mgOf f) n (mgOf h) m).length (mrgL (mgOf f) n (mgOf h) m).length=true:=Nat.ble_eq_true_of_le (lR7 _);refine⟨λ_ _=>rfl,?_⟩
 constructor
 .simp[frzC,frzA,frz,hb]
 .rfl
theorem w2r(n:Nat)(v:Nat->Int)(a:Int)(R:oR7):wpFn te [(42,.det wbf)] [(4,wo8 n v (a+1+1) (waa n v (a+1) 4) (waa n v a 500))] 0 Tryz.f82 [.ptr 0 0] [.cells [.view 1 n (wac v),.q a] 27] R=(letI z7:=4611686018427387904;letI z6:=(a+1+1);letI z4:=((1:Int)<=4/\(4:Int)<=1000000:Prop);letI z3:=(a+1);letI z2:=vInt (wac v);letI z1:=(TfS.mk (0:Int) [] z6);(27=27/\1=1/\wac v=wac z2/\((1:Int)<=500/\(500:Int)<=1000000)/\(0:Int)<=a/\a<=z7)/\(27=27/\1=1/\wac v=wac z2/\z4/\(0:Int)<=a+1/\a+1<=z7)/\(TEq [(0,.ptr 0 0),(2,.ptr 1 0),(3,.ptr 2 0),(4,.q 0),(9,.q (waa n z2 z3 (4:Int))),(10,.q 0)] [(0,.ptr 0 0),(2,.ptr 1 0),(3,.ptr 2 0),(4,.q z1.up),(9,.q (waa n v z3 (4:Int))),(10,.q (z1.bs.length:Int))]/\wai [(0,.cells [.view 1 n (wac v),.q z6] 27),(1,.cells [.q 0,.nil] 95),(2,.cells [.q (waa n z2 a (500:Int)),.own 3 0] 95),(3,.row 115 2 0 (λ(_x:Nat)=>[]) false)] [(0,.cells [.view 1 n (wac v),.q z1.a] 27),(1,.cells [.q 0,.nil] 95),(2,.cells [.q (waa n v a (500:Int)),.own 3 0] 95),(3,.row 115 2 0 (wan (atB z1.bs)) false)])/\((0:Int)<=waa n v z3 (4:Int)/\waa n v z3 (4:Int)<=3)/\((0:Int)<=a+1+1/\a+1+1<=4611686018427375000)/\∀(i:TfS),letI z9:=i.bs.length;letI z8:=(waa n z2 i.a (4:Int) * (10:Int));letI z5:=i.bs.length+1;letI z0:=(wap 2 (.q 0:: .q z8::List.append [] (List.flatten (List.replicate (nat_lit 0) [.q 0,.q 0]))));(z9:Int)=waa n v z3 (4:Int)->i.a=a+1+1+2 * waa n v z3 (4:Int)->i.bs=tarB n v z6 (waa n v z3 (4:Int)).toNat->(27=27/\1=1/\wac v=wac z2/\z4/\(0:Int)<=i.a/\i.a<=z7)/\inR .i64 z8/\(2<=16777216/\2=2/\1<=9223372036854775807)/\((1<=1/\2=2)/\i.bs.length<=i.bs.length/\2=2/\115=115/\2=2/\i.bs.length+1<=9223372036854775807/\z5 * 16<=140737488355328)/\(True/\True)/\(∀(i_1:Nat),i_1<i.bs.length+1->nrefL (apF z9 (wan (atB i.bs)) z0 i_1)=true)/\∃(O':oL7),wai [(0,.cells [.view 1 n (wac v),.q (i.a+1)] 27),(1,.row 115 2 z5 (apF z9 (wan (atB i.bs)) z0) false)] O'/\R (.agg [.q (waa n v a (500:Int)),.own 1 z5]) O'):=by kernel_rfl
theorem w2n(n:Nat)(v:Nat->Int)(N st:Int)(i:TfS)(P:TfS->Prop)(R:eR7):wa1 ⟨te,[(42,.det wbf)],[],1,38,0⟩ (wa2 Tryz.f82 4) [0,2,3,4,9,10] [0,2,3] [] (wj3 n v N st) P R (wj3 n v N st i)=(letI z4:=i.bs.length+1;letI z2:=vInt (wac v);letI z3:=(waa n z2 (i.a+1) (4:Int) * (10:Int));letI z1:=i.bs.length;letI z0:=(i.up+((1:Int)+waa n z2 i.a (60:Int)));wab (decide ((z1:Int)<N)) ((27=27/\1=1/\wac v=wac z2/\((1:Int)<=60/\(60:Int)<=1000000)/\(0:Int)<=i.a/\i.a<=4611686018427387904)/\inR .i64 ((1:Int)+waa n z2 i.a (60:Int))/\inR .i64 z0/\(27=27/\1=1/\wac v=wac z2/\((1:Int)<=4/\(4:Int)<=1000000)/\(0:Int)<=i.a+1/\i.a+1<=4611686018427387904)/\inR .i64 z3/\(2<=16777216/\2=2/\1<=9223372036854775807)/\((1<=1/\2=2)/\i.bs.length<=i.bs.length/\2=2/\115=115/\2=2/\i.bs.length+1<=9223372036854775807/\z4 * 16<=140737488355328)/\inR .i64 ((z1:Int)+1)/\∃(i':TfS),letI z5:=i'.bs.length;(TEq [(0,.ptr 0 0),(2,.ptr 1 0),(3,.ptr 2 0),(4,.q z0),(9,.q N),(10,.q ((z1:Int)+1))] [(0,.ptr 0 0),(2,.ptr 1 0),(3,.ptr 2 0),(4,.q i'.up),(9,.q N),(10,.q (z5:Int))]/\wai [(0,.cells [.view 1 n (wac v),.q (i.a+1+1)] 27),(1,.cells [.q 0,.nil] 95),(2,.cells [.q st,.own 3 z4] 95),(3,.row 115 2 z4 (apF z1 (wan (atB i.bs)) (wap 2 (.q z0:: .q z3::List.append [] (List.flatten (List.replicate (nat_lit 0) [.q 0,.q 0]))))) false)] [(0,.cells [.view 1 n (wac v),.q i'.a] 27),(1,.cells [.q 0,.nil] 95),(2,.cells [.q st,.own 3 z5] 95),(3,.row 115 2 z5 (wan (atB i'.bs)) false)])/\P i') ((∀(i_1:Nat),i_1<i.bs.length->true=true)/\∃(O':oL7),wai [(0,.cells [.view 1 n (wac v),.q i.a] 27),(1,.cells [.q 0,.nil] 95),(2,.cells [.q st,.own 3 z1] 95),(3,.row 115 2 z1 (wan (atB i.bs)) false)] O'/\R (.exit 0) (St.mk [(0,.ptr 0 0),(2,.ptr 1 0),(3,.ptr 2 0)] O' 4 []))):=by kernel_rfl
theorem wex{α:Type}(enc:α->List AV)(d:α)(L:List α)(x:α)(ch:Nat->List AV)(hch:ch 0=enc x):∀i,i<L.length+1->apF L.length (λi=>enc (L.getD i d)) ch i=enc ((L++[x]).getD i d):=λi hi=>by
 unfold apF
 by_cases h:i<L.length
 .rw[if_pos h];congr 1;simp[List.getD_eq_getElem?_getD,List.getElem?_append_left h]
 .have:i=L.length:=by omega
  subst this;rw[if_neg h,Nat.sub_self,hch];congr 1;simp
theorem snocB(L:List BK)(x:BK)(ch:Nat->List AV)(hch:ch 0=[.q x.up,.q x.pr]):∀i,i<L.length+1->apF L.length (wan (atB L)) ch i=wan (atB (L++[x])) i:=
 wex (λb:BK=>[.q b.up,.q b.pr]) _ L x ch hch
theorem wz6(hP:C.P=Tryz.prog)(n:Nat)(v:Nat->Int)(a N st:Int):waj C 1 38 (wam Tryz.f82 4) (wo8 n v a N st):=by
 rintro s Q ⟨h0,hN,ha,hQ⟩;refine AWP.ownNilP 3 1 115 2 ?_
 refine waj.mk (prg hP) [(42,.det wbf)] 0 (.cons (wcc hP) .nil) [0,2,3,4,9,10] [0,2,3] [] (wj3 n v N st)
  (λi=>(i.bs.length:Int)<=N/\i.a=a+2 * i.bs.length/\i.up=wd0 n v a i.bs.length/\i.bs=tarB n v a i.bs.length) (λi=>N.toNat - i.bs.length) ⟨0,[],a⟩ ⟨by show (0:Int)<=N;omega,by show a=a+2 * ((0:Nat):Int);omega,rfl,rfl⟩ h0 (λi hi=>?_) (λi=>⟨λ_ _=>rfl,trivial⟩)
 obtain⟨h1,h2,h3,h4⟩:=hi;have hw:vInt (wac v)=v:=rfl;rw[w2n,hw];have r1:=wa0 (show (1:Int)<=60 by omega) n v i.a;have r2:=wa0 (show (1:Int)<=4 by omega) n v (i.a+1);have r3:=wqo n v a i.bs.length;refine wak (λq=>?_) (λq=>⟨λ_ _=>rfl,_,wau _,hQ i (by omega) (by omega) (by rw[show N.toNat=i.bs.length by omega];exact h4)⟩);refine⟨⟨rfl,rfl,rfl,by omega,by omega⟩,by simp only[inR];omega,by simp only[inR];omega,⟨rfl,rfl,rfl,by omega,by omega⟩,by simp only[inR];omega,⟨by omega,rfl,by omega⟩,⟨⟨lR7 _,rfl⟩,lR7 _,rfl,rfl,rfl,by omega,?_⟩,by simp only[inR];omega,
  ⟨i.up+(1+waa n v i.a 60),i.bs++[⟨i.up+(1+waa n v i.a 60),waa n v (i.a+1) 4 * 10⟩],i.a+1+1⟩,?_,⟨?_,?_,?_,?_⟩,?_⟩
 .show (i.bs.length+1) * 16<=_;omega
 .dsimp only
  rw[lA7];exact⟨rfl,rfl,rfl,rfl,⟨rfl,rfl,rfl,rfl,rfl,snocB _ _ _ rfl⟩,trivial⟩
 .show ((i.bs++[_]).length:Int)<=N;rw[lA7];simp;omega
 .show i.a+1+1=a+2 * ((i.bs++[_]).length:Int);rw[lA7];simp;omega
 .show i.up+(1+waa n v i.a 60)=wd0 n v a (i.bs++[_]).length;rw[lA7,List.length_singleton,wd0, ← h3,h2]
 .show i.bs++[_]=tarB n v a (i.bs++[_]).length;rw[lA7,List.length_singleton,tarB,wd0, ← h4, ← h3,h2]
 .show N.toNat - (i.bs++[_]).length<N.toNat - i.bs.length;rw[lA7];simp;omega
theorem w0b(hP:C.P=Tryz.prog):wah C 82 wmq:=by
 rintro args objs U Os vc h hvc;unfold wmq at h;split at h<;>cases h;rename_i sz n f a t;obtain⟨rfl,rfl,hf,ha⟩:=hvc;rw[hf];generalize vInt f=v at *;have hw:vInt (wac v)=v:=rfl;refine wal.frzO 1 ?_;refine wa4.wpL (prg hP) [(42,.det wbf)] [(4,wo8 n v (a+1+1) (waa n v (a+1) 4) (waa n v a 500))] 0 (.cons (wcc hP) .nil) (hP ▸ Tryz.func82) rfl rfl rfl [(wam Tryz.f82 4,wo8 n v (a+1+1) (waa n v (a+1) 4) (waa n v a 500))] (by kernel_rfl) ⟨wz6 hP _ _ _ _ _,trivial⟩ ?_;rw[w2r,hw];have r1:=wa0 (show (1:Int)<=500 by omega) n v a;have r2:=wa0 (show (1:Int)<=4 by omega) n v (a+1);refine⟨⟨rfl,rfl,rfl,by omega,by omega⟩,⟨rfl,rfl,rfl,by omega,by omega⟩,⟨rfl,rfl,rfl,rfl,⟨rfl,rfl,rfl,rfl,rfl,λi hi=>absurd hi (nZ7 i)⟩,trivial⟩,by omega,by omega,λi h1 h2 h3=>?_⟩;have r3:=wa0 (show (1:Int)<=4 by omega) n v i.a;refine⟨⟨rfl,rfl,rfl,by omega,by omega⟩,by simp only[inR];omega,⟨by omega,rfl,by omega⟩,⟨⟨lR7 _,rfl⟩,lR7 _,rfl,rfl,rfl,by omega,?_⟩,⟨trivial,trivial⟩,?_,[(0,.cells [.view 1 n (wac v),.q (i.a+1)] 27),(1,.row 115 2 (i.bs.length+1) (wan (atB (i.bs++[⟨0,waa n v i.a 4 * 10⟩]))) false)],⟨rfl,⟨rfl,rfl,rfl,rfl,rfl,snocB _ _ _ rfl⟩,trivial⟩,λ_ _=>rfl,?_⟩
 .show (i.bs.length+1) * 16<=_;omega
 .refine λj hj=>?_;rw[snocB i.bs ⟨0,waa n v i.a 4 * 10⟩ _ rfl j hj];rfl
 .have hb:Nat.ble (i.bs.length+1) (i.bs.length+1)=true:=Nat.ble_eq_true_of_le (lR7 _);have e2:i.a=a+2+2 * waa n v (a+1) 4:=by omega
  have eL:tarL n v a=i.bs++[⟨0,waa n v i.a 4 * 10⟩]:=by
   unfold tarL;rw[h3,e2,show a+1+1=a+2 by omega]
  have eA:tarA n v a=i.a+1:=by unfold tarA;omega
  have hl:(i.bs++[(⟨0,waa n v i.a 4 * 10⟩:BK)]).length=i.bs.length+1:=by simp
  rw[eL,eA,hl]
  constructor
  .simp[frzC,frzA,frz,hb]
  .simp[rm]
theorem nf_file(n:Nat)(v:Nat->Int)(a:Int)(R:oR7):letI z21:=wae (atR []);letI z20:=([(0,.ptr 0 0),(2,.ptr 1 0),(3,.ptr 2 0)]:tL7);letI z19:=((0:Int)<=4/\(4:Int)<=90:Prop);letI z18:=(a+1);letI z17:=wad (atM []);letI z15:=4611686018427387904;letI z14:=(fidF (waa n v a (3:Int)));letI z11:=(a+1+1);letI z10:=((0:Int)<=a+1+1+1+1/\a+1+1+1+1<=4611686018427370000:Prop);letI z7:=((1:Int)<=3/\(3:Int)<=1000000:Prop);letI z6:=(a+1+1+1+1+1);letI z5:=([.str [],.q 0,.q 0,.q 0,.nil,.nil,.nil]:List AV);letI z4:=vInt (wac v);letI z3:=(a+1+1+1+1);letI z16:=([.view 1 n (wac v),.q z3]:List AV);letI z2:=(a+1+1+1);letI z1:=([.view 1 n (wac v),.q a]:List AV);letI z13:=(List.length [AObj.cells z1 (27:TypeId)]+1);letI z12:=(List.length [AObj.cells z1 (27:TypeId)]+1+1);letI z9:=(List.length [AObj.cells z1 (27:TypeId)]+1,.row 61 5 0 z21 false);letI z8:=(List.length [AObj.cells z1 (27:TypeId)]+1+1,.row 97 5 0 (wag (atT [])) false);letI z0:=([.str z14,.q ((1:Int)+waa n v z18 (3:Int)),.q ((43860:Int)+waa n v z11 (6:Int)),.q ((1:Int)+waa n v z2 (3:Int)),.own 3 0,.own 4 0,.own 5 0]:List AV);wpFn te [(42,.det wbf),(59,.rel woy),(79,.rel wov)] [(1002,wp8 n v (a+1+1+1+1) (fidF (waa n v a 3)) (1+waa n v (a+1) 3) (43860+waa n v (a+1+1) 6) (1+waa n v (a+1+1+1) 3)),(10,wp7 n v (a+1+1+1+1+1) (fidF (waa n v a 3)) (1+waa n v (a+1) 3) (43860+waa n v (a+1+1) 6) (1+waa n v (a+1+1+1) 3) (waa n v (a+1+1+1+1) 3))] 0 Tryz.f32 [.ptr 0 0] [.cells z1 27] R=((3<=16777216/\1=1/\3<=9223372036854775807)/\(27=27/\1=1/\wac v=wac z4/\z7/\(0:Int)<=a/\a<=z15)/\((0:Int)<=waa n z4 a (3:Int)/\waa n z4 a (3:Int)<(↑3:Int))/\((waa n z4 a (3:Int)).toNat<3/\1=1)/\(27=27/\1=1/\wac v=wac z4/\z7/\(0:Int)<=a+1/\a+1<=z15)/\inR .i64 ((1:Int)+waa n z4 z18 (3:Int))/\(27=27/\1=1/\wac v=wac z4/\((1:Int)<=6/\(6:Int)<=1000000)/\(0:Int)<=a+1+1/\a+1+1<=z15)/\inR .i64 ((43860:Int)+waa n z4 z11 (6:Int))/\(27=27/\1=1/\wac v=wac z4/\z7/\(0:Int)<=a+1+1+1/\a+1+1+1<=z15)/\inR .i64 ((1:Int)+waa n z4 z2 (3:Int))/\(TEq z20 z20/\wai [(0,.cells z16 27),(1,.cells z5 49),(2,.cells [.str (List.getD [[(102:UInt8)],[(103:UInt8)],[(104:UInt8)]] (waa n z4 a (3:Int)).toNat []),.q ((1:Int)+waa n z4 z18 (3:Int)),.q ((43860:Int)+waa n z4 z11 (6:Int)),.q ((1:Int)+waa n z4 z2 (3:Int)),.own 3 0,.own 4 0,.own 5 0] 49),(3,.row 40 15 0 (λ(_x:Nat)=>[]) false),(4,.row 61 5 0 (λ(_x:Nat)=>[]) false),(5,.row 97 5 0 (λ(_x:Nat)=>[]) false)] [(0,.cells z16 27),(1,.cells z5 49),(2,.cells z0 49),(3,.row 40 15 0 z17 false),(4,.row 61 5 0 z21 false),(5,.row 97 5 0 (wag (atT [])) false)])/\wab (decide ((1:Int)+waa n v z2 (3:Int)=1)) (27=27/\1=1/\wac v=wac z4/\z10/\z19/\∀(c:Nat) (g:Nat->MG) (a':Int),c<=(4:Int).toNat->a+1+1+1+1<=a'/\a'<=a+1+1+1+1+1000->(∀(j:Nat),j<c->MG.Made (g j))->(∀(i:Nat),i<c->true=true)/\(True/\True)/\(∀(i:Nat),i<c->true=true)/\(∀(i:Nat),i<0->true=true)/\(∀(i:Nat),i<0->true=true)/\∃(O':oL7),wai [(0,.cells [.view 1 n (wac v),.q a'] 27),(1,.row 40 15 c (wad g) false),z9,z8] O'/\R (.agg [.str z14,.q 1,.q ((43860:Int)+waa n v z11 (6:Int)),.q ((1:Int)+waa n v z2 (3:Int)),.own 1 c,.own z13 0,.own z12 0]) O') (wab (decide ((1:Int)+waa n v z2 (3:Int)=2)) (27=27/\1=1/\wac v=wac z4/\z10/\z19/\∀(c:Nat) (g:Nat->RW) (a':Int),c<=(4:Int).toNat->a+1+1+1+1<=a'/\a'<=a+1+1+1+1+600->(∀(j:Nat),j<c->RW.Made (g j))->(∀(i:Nat),i<c->true=true)/\(True/\True)/\(∀(i:Nat),i<0->true=true)/\(∀(i:Nat),i<c->true=true)/\(∀(i:Nat),i<0->true=true)/\∃(O':oL7),wai [(0,.cells [.view 1 n (wac v),.q a'] 27),(1,.row 40 15 0 z17 false),(List.length [AObj.cells z1 (27:TypeId)]+1,.row 61 5 c (wae g) false),z8] O'/\R (.agg [.str z14,.q ((1:Int)+waa n v z18 (3:Int)),.q ((43860:Int)+waa n v z11 (6:Int)),.q ((1:Int)+waa n v z2 (3:Int)),.own 1 0,.own z13 c,.own z12 0]) O') (wab (decide ((1:Int)+waa n v z2 (3:Int)=3)) ((27=27/\1=1/\wac v=wac z4/\z7/\(0:Int)<=a+1+1+1+1/\a+1+1+1+1<=z15)/\(TEq [(0,.ptr 0 0),(2,.ptr 1 0),(3,.ptr 2 0),(35,.q (waa n z4 z3 (3:Int))),(36,.q 0)] [(0,.ptr 0 0),(2,.ptr 1 0),(3,.ptr 2 0),(35,.q (waa n v z3 (3:Int))),(36,.q (↑(FiS.mk [] z6).ts.length:Int))]/\wai [(0,.cells [.view 1 n (wac v),.q z6] 27),(1,.cells z5 49),(2,.cells z0 49),(3,.row 40 15 0 z17 false),(4,.row 61 5 0 z21 false),(5,.row 97 5 0 (wag (atT [])) false)] [(0,.cells [.view 1 n (wac v),.q (FiS.mk [] z6).a] 27),(1,.cells z5 49),(2,.cells z0 49),(3,.row 40 15 0 z17 false),(4,.row 61 5 0 z21 false),(5,.row 97 5 0 (wag (atT (FiS.mk [] z6).ts)) false)])/\((0:Int)<=waa n v z3 (3:Int)/\waa n v z3 (3:Int)<=2)/\((0:Int)<=a+1+1+1+1+1/\a+1+1+1+1+1<=4611686018427365000)/\∀(i:FiS),i.ts.length<=2->a+1+1+1+1+1<=i.a/\i.a<=a+1+1+1+1+1+40->(∀(t:RT),t∈i.ts->RT.Tn t)->(True/\True)/\(∀(i:Nat),i<0->true=true)/\(∀(i:Nat),i<0->true=true)/\(∀(i_1:Nat),i_1<i.ts.length->true=true)/\∃(O':oL7),wai [(0,.cells [.view 1 n (wac v),.q i.a] 27),(1,.row 40 15 0 z17 false),z9,(List.length [AObj.cells z1 (27:TypeId)]+1+1,.row 97 5 i.ts.length (wag (atT i.ts)) false)] O'/\R (.agg [.str z14,.q ((1:Int)+waa n v z18 (3:Int)),.q ((43860:Int)+waa n v z11 (6:Int)),.q ((1:Int)+waa n v z2 (3:Int)),.own 1 0,.own z13 0,.own z12 i.ts.length]) O') ((True/\True)/\(∀(i:Nat),i<0->true=true)/\(∀(i:Nat),i<0->true=true)/\(∀(i:Nat),i<0->true=true)/\∃(O':oL7),wai [(0,.cells z16 27),(1,.row 40 15 0 z17 false),z9,z8] O'/\R (.agg [.str z14,.q ((1:Int)+waa n v z18 (3:Int)),.q ((43860:Int)+waa n v z11 (6:Int)),.q ((1:Int)+waa n v z2 (3:Int)),.own 1 0,.own z13 0,.own z12 0]) O')))):=by kernel_rfl
theorem nf_fl2(n:Nat)(v:Nat->Int)(a:Int)(id:List UInt8)(ver day kind:Int)(Q:eR7):regP ⟨te,[],[],1,55,0⟩ (regC Tryz.f32 2) [0,2,3,20] Q (S_fl n v a id ver day kind [] [] [])=(letI z0:=(∀(i:Nat),i<0->true=true:Prop);z0/\z0/\z0/\∃(O':oL7),wai [(0,.cells [.view 1 n (wac v),.q a] 27),(1,.cells [.str [],.q 0,.q 0,.q 0,.nil,.nil,.nil] 49),(2,.cells [.str id,.q ver,.q day,.q kind,.own 3 0,.own 4 0,.own 5 0] 49),(3,.row 40 15 0 (wad (atM [])) false),(4,.row 61 5 0 (wae (atR [])) false),(5,.row 97 5 0 (wag (atT [])) false)] O'/\Q .normal (St.mk [(0,.ptr 0 0),(2,.ptr 1 0),(3,.ptr 2 0),(20,.q kind)] O' 6 [])):=by kernel_rfl
theorem w4r(n:Nat)(v:Nat->Int)(id:List UInt8)(ver day kind N:Int)(i:FiS)(P:FiS->Prop)(R:eR7):wa1 ⟨te,[(42,.det wbf),(80,.det wdc),(81,.det wdb),(82,.det wmq)],[],1,55,0⟩ (wa2 Tryz.f32 10) [0,2,3,35,36] [0,2,3] [] (wn5 n v id ver day kind N) P R (wn5 n v id ver day kind N i)=(letI z4:=i.ts.length+1;letI z3:=i.ts.length;letI z2:=([.str [],.q 0,.q 0,.q 0,.nil,.nil,.nil]:List AV);letI z1:=(i.a+1+1+1);letI z0:=vInt (wac v);wab (decide ((z3:Int)<N)) ((27=27/\1=1/\wac v=wac z0/\(0:Int)<=i.a/\i.a<=4611686018427387000)/\(27=27/\1=1/\wac v=wac z0/\(0:Int)<=i.a+1/\i.a+1<=4611686018427387000)/\(27=27/\1=1/\wac v=wac z0/\((1:Int)<=4/\(4:Int)<=1000000)/\(0:Int)<=i.a+1+1/\i.a+1+1<=4611686018427387904)/\inR .i64 ((1440:Int)+waa n z0 (i.a+1+1) (4:Int))/\(27=27/\1=1/\wac v=wac z0/\(0:Int)<=i.a+1+1+1/\i.a+1+1+1<=4611686018427370000)/\(5<=16777216/\5=5/\1<=9223372036854775807)/\((1<=1/\5=5)/\i.ts.length<=i.ts.length/\5=5/\97=97/\5=5/\i.ts.length+1<=9223372036854775807/\z4 * 72<=140737488355328)/\inR .i64 ((z3:Int)+1)/\∃(i':FiS),letI z5:=i'.ts.length;(TEq [(0,.ptr 0 0),(2,.ptr 1 0),(3,.ptr 2 0),(35,.q N),(36,.q ((z3:Int)+1))] [(0,.ptr 0 0),(2,.ptr 1 0),(3,.ptr 2 0),(35,.q N),(36,.q (z5:Int))]/\wai [(0,.cells [.view 1 n (wac v),.q (tarA n z0 z1)] 27),(1,.cells z2 49),(2,.cells [.str id,.q ver,.q day,.q kind,.own 3 0,.own 4 0,.own 5 z4] 49),(3,.row 40 15 0 (wad (atM [])) false),(4,.row 61 5 0 (wae (atR [])) false),(5,.row 97 5 z4 (apF z3 (wag (atT i.ts)) (wap 5 (.str (outF (waa n z0 i.a (3:Int))):: .str (idF (waa n z0 (i.a+1) (4:Int))):: .q ((1440:Int)+waa n z0 (i.a+1+1) (4:Int)):: .q (waa n z0 z1 (500:Int)):: .view 2 (tarL n z0 z1).length (wan (atB (tarL n z0 z1)))::List.append [] (List.flatten (List.replicate (nat_lit 0) [.str ([]),.str ([]),.q 0,.q 0,.nil]))))) false)] [(0,.cells [.view 1 n (wac v),.q i'.a] 27),(1,.cells z2 49),(2,.cells [.str id,.q ver,.q day,.q kind,.own 3 0,.own 4 0,.own 5 z5] 49),(3,.row 40 15 0 (wad (atM [])) false),(4,.row 61 5 0 (wae (atR [])) false),(5,.row 97 5 z5 (wag (atT i'.ts)) false)])/\P i') ((∀(i:Nat),i<0->true=true)/\(∀(i:Nat),i<0->true=true)/\(∀(i_1:Nat),i_1<i.ts.length->true=true)/\∃(O':oL7),wai [(0,.cells [.view 1 n (wac v),.q i.a] 27),(1,.cells z2 49),(2,.cells [.str id,.q ver,.q day,.q kind,.own 3 0,.own 4 0,.own 5 z3] 49),(3,.row 40 15 0 (wad (atM [])) false),(4,.row 61 5 0 (wae (atR [])) false),(5,.row 97 5 z3 (wag (atT i.ts)) false)] O'/\R (.exit 1) (St.mk [(0,.ptr 0 0),(2,.ptr 1 0),(3,.ptr 2 0)] O' 6 []))):=by kernel_rfl
theorem wxp{α:Type}(g:Nat->α)(n:Nat)(d:α){i:Nat}(h:i<n):(lst g n).getD i d=g i:=by
 simp[lst,List.getD_eq_getElem?_getD,List.getElem?_range h]
theorem wfj{α:Type}(g:Nat->α)(n:Nat):(lst g n).length=n:=by simp[lst]
theorem wwt{α:Type}{g:Nat->α}{n:Nat}{p:α->Prop}(h:∀j,j<n->p (g j)):∀x∈lst g n,p x:=λx hx=>by
 obtain⟨i,hi,rfl⟩:=List.mem_map.1 hx;exact h i (List.mem_range.1 hi)
theorem wfa{α:Type}{p:α->Prop}{L:List α}{x:α}(h:∀y∈L,p y)(hx:p x):∀y∈L++[x],p y:=λy hy=>by
 rcases List.mem_append.1 hy with q | q
 .exact h y q
 .rw[List.mem_singleton.1 q];exact hx
theorem whn(i:Int):(fidF i).length<=24:=by
 unfold fidF
 match i.toNat with
 |0=>decide
 |1=>decide
 |2=>decide
 |n+3=>exact zL7 _
theorem fl2_ok(hP:C.P=Tryz.prog)(n:Nat)(v:Nat->Int)(a:Int)(id:List UInt8)(ver day kind:Int):waj C 1 55 (regC Tryz.f32 2) (wp8 n v a id ver day kind):=by
 have _:C.Loose:=inferInstance;rintro st Q ⟨h0,hQ⟩;refine AWP.ownNilP 3 4 40 15 (AWP.ownNilP 3 5 61 5 (AWP.ownNilP 3 6 97 5 ?_));refine waj.reg (S:=S_fl n v a id ver day kind [] [] []) (prg hP) [] 0 .nil [0,2,3] [0,2,3,20] h0 ?_ ⟨λ_ _=>rfl,λ_ _=>rfl,λ_ _=>rfl,trivial⟩;rw[nf_fl2];exact⟨λ_ _=>rfl,λ_ _=>rfl,λ_ _=>rfl,_,wau _,hQ⟩
theorem w7h(hP:C.P=Tryz.prog)(n:Nat)(v:Nat->Int)(a:Int)(id:List UInt8)(ver day kind N:Int):waj C 1 55 (wam Tryz.f32 10) (wp7 n v a id ver day kind N):=by
 rintro s Q ⟨h0,hN,ha,hQ⟩
 refine waj.mk (prg hP) [(42,.det wbf),(80,.det wdc),(81,.det wdb),(82,.det wmq)] 0 (.cons (wcc hP) (.cons (whe hP) (.cons (wg4 hP) (.cons (w0b hP) .nil)))) [0,2,3,35,36] [0,2,3] [] (wn5 n v id ver day kind N)
  (λi=>(i.ts.length:Int)<=N/\(a<=i.a/\i.a<=a+20 * i.ts.length)/\∀t∈i.ts,t.Tn) (λi=>N.toNat - i.ts.length) ⟨[],a⟩ ⟨by show (0:Int)<=N;omega,by show a<=a/\a<=a+20 * ((0:Nat):Int);omega,λt ht=>(by cases ht)⟩ h0 (λi hi=>?_) (λi=>⟨λ_ _=>rfl,λ_ _=>rfl,λ_ _=>rfl,trivial⟩)
 obtain⟨h1,h2,h3⟩:=hi;have hw:vInt (wac v)=v:=rfl;rw[w4r,hw];have r1:=wa0 (show (1:Int)<=4 by omega) n v (i.a+1+1);have r2:=wa0 (show (1:Int)<=500 by omega) n v (i.a+1+1+1);obtain⟨t1,t2,t3⟩:=w0c n v (i.a+1+1+1);have rw1:=wrd (wrb n v (i.a - 1)).1;have e1:i.a - 1+1=i.a:=by omega
 have ho:(outF (waa n v i.a 3)).length<=100:=by rw[← e1];exact rw1.a
 have hp:(idF (waa n v (i.a+1) 4)).length<=100:=by rw[← e1];exact rw1.b
 have htn:(⟨outF (waa n v i.a 3),idF (waa n v (i.a+1) 4),1440+waa n v (i.a+1+1) 4,waa n v (i.a+1+1+1) 500,tarL n v (i.a+1+1+1)⟩:RT).Tn:=
  ⟨⟨by simp only[inR];omega,by simp only[inR];omega,by show (tarL n v (i.a+1+1+1)).length<=1000;omega,t2⟩,ho,hp⟩
 refine wak (λq=>?_) (λq=>⟨λ_ _=>rfl,λ_ _=>rfl,λ_ _=>rfl,_,wau _,hQ i (by omega) (by omega) h3⟩);refine⟨⟨rfl,rfl,rfl,by omega,by omega⟩,⟨rfl,rfl,rfl,by omega,by omega⟩,⟨rfl,rfl,rfl,⟨by omega,by omega⟩,by omega,by omega⟩,by simp only[inR];omega,⟨rfl,rfl,rfl,by omega,by omega⟩,⟨by omega,rfl,by omega⟩,⟨⟨lR7 _,rfl⟩,lR7 _,rfl,rfl,rfl,by omega,?_⟩,by simp only[inR];omega,
  ⟨i.ts++[⟨outF (waa n v i.a 3),idF (waa n v (i.a+1) 4),1440+waa n v (i.a+1+1) 4,waa n v (i.a+1+1+1) 500,tarL n v (i.a+1+1+1)⟩],tarA n v (i.a+1+1+1)⟩,?_,⟨?_,?_,?_⟩,?_⟩
 .show (i.ts.length+1) * 72<=_;omega
 .dsimp only
  rw[lA7];exact⟨rfl,rfl,rfl,rfl,rQ7,rQ7,⟨rfl,rfl,rfl,rfl,rfl,wex (λt:RT=>[.str t.o,.str t.p,.q t.per,.q t.st,.view 2 t.bs.length (wan (atB t.bs))]) wdf i.ts _ _ rfl⟩,trivial⟩
 .show ((i.ts++[_]).length:Int)<=N;rw[lA7];simp;omega
 .show a<=tarA n v (i.a+1+1+1)/\tarA n v (i.a+1+1+1)<=a+20 * ((i.ts++[_]).length:Int);rw[lA7];simp;omega
 .intro t ht
  rcases List.mem_append.1 ht with ht | ht
  .exact h3 t ht
  .rw[List.mem_singleton.1 ht];exact htn
 .show N.toNat - (i.ts++[_]).length<N.toNat - i.ts.length;rw[lA7];simp;omega
theorem wx2(hP:C.P=Tryz.prog):wa4 C 32 wo2:=by
 rintro args objs R h;unfold wo2 at h;split at h
 .rename_i sz n f a t;obtain⟨rfl,rfl,hf,ha,hR⟩:=h;rw[hf] at hR ⊢;generalize vInt f=v at *;have hw:vInt (wac v)=v:=rfl
  refine wa4.wpL (prg hP) [(42,.det wbf),(59,.rel woy),(79,.rel wov)]
   [(1002,wp8 n v (a+1+1+1+1) (fidF (waa n v a 3)) (1+waa n v (a+1) 3) (43860+waa n v (a+1+1) 6) (1+waa n v (a+1+1+1) 3)),(10,wp7 n v (a+1+1+1+1+1) (fidF (waa n v a 3)) (1+waa n v (a+1) 3) (43860+waa n v (a+1+1) 6) (1+waa n v (a+1+1+1) 3) (waa n v (a+1+1+1+1) 3))] 0
   (.cons (wcc hP) (.cons (msgs_ok hP) (.cons (rows_ok hP) .nil))) (hP ▸ Tryz.func32) rfl rfl rfl
   [(regC Tryz.f32 2,wp8 n v (a+1+1+1+1) (fidF (waa n v a 3)) (1+waa n v (a+1) 3) (43860+waa n v (a+1+1) 6) (1+waa n v (a+1+1+1) 3)),(wam Tryz.f32 10,wp7 n v (a+1+1+1+1+1) (fidF (waa n v a 3)) (1+waa n v (a+1) 3) (43860+waa n v (a+1+1) 6) (1+waa n v (a+1+1+1) 3) (waa n v (a+1+1+1+1) 3))] (by kernel_rfl)
   ⟨fl2_ok hP _ _ _ _ _ _ _,w7h hP _ _ _ _ _ _ _ _,trivial⟩ ?_
  rw[nf_file,hw];have r0:=wa0 (show (1:Int)<=3 by omega) n v a;have r1:=wa0 (show (1:Int)<=3 by omega) n v (a+1);have r2:=wa0 (show (1:Int)<=6 by omega) n v (a+1+1);have r3:=wa0 (show (1:Int)<=3 by omega) n v (a+1+1+1);have r4:=wa0 (show (1:Int)<=3 by omega) n v (a+1+1+1+1);refine⟨⟨by omega,rfl,by omega⟩,⟨rfl,rfl,rfl,⟨by omega,by omega⟩,by omega,by omega⟩,⟨r0.1,r0.2⟩,⟨by omega,rfl⟩,⟨rfl,rfl,rfl,⟨by omega,by omega⟩,by omega,by omega⟩,by simp only[inR];omega,⟨rfl,rfl,rfl,⟨by omega,by omega⟩,by omega,by omega⟩,by simp only[inR];omega,⟨rfl,rfl,rfl,⟨by omega,by omega⟩,by omega,by omega⟩,by simp only[inR];omega,
   ⟨rfl,rfl,rfl,rfl,⟨rfl,rfl,rfl,rfl,rfl,λi hi=>absurd hi (nZ7 i)⟩,⟨rfl,rfl,rfl,rfl,rfl,λi hi=>absurd hi (nZ7 i)⟩,⟨rfl,rfl,rfl,rfl,rfl,λi hi=>absurd hi (nZ7 i)⟩,trivial⟩,?_⟩
  refine wak (λq1=>?_) (λq1=>wak (λq2=>?_) (λq2=>wak (λq3=>?_) (λq3=>absurd q3 (by omega))))
  .refine⟨rfl,rfl,rfl,⟨by omega,by omega⟩,⟨by omega,by omega⟩,λc g a' hc ha' hg=>⟨λ_ _=>rfl,⟨trivial,trivial⟩,λ_ _=>rfl,λ_ _=>rfl,λ_ _=>rfl,[(0,.cells [.view 1 n (wac v),.q a'] 27),(1,.row 40 15 c (wad (atM (lst g c))) false),(2,.row 61 5 0 (wae (atR [])) false),(3,.row 97 5 0 (wag (atT [])) false)],?_,?_⟩⟩
   rotate_left
   .have:=hR ⟨fidF (waa n v a 3),1,43860+waa n v (a+1+1) 6,1+waa n v (a+1+1+1) 3,lst g c,[],[]⟩ a' ⟨Nat.le_trans (whn _) (by omega),by simp only[inR];omega,by simp only[inR];omega,⟨by rw[wfj];omega,wwt λj hj=>wv7 (hg j hj).ok⟩,⟨by simp,λr hr=>(by cases hr)⟩,⟨by simp,λr hr=>(by cases hr)⟩⟩ (by rw[wfj];omega) (by simp) (by simp) ⟨whn _,by show (lst g c).length<=4;rw[wfj];omega,by show 0<=4;omega,by show 0<=2;omega,by show 1<=(1:Int)/\(1:Int)<=3;omega,by show 1<=1+_/\1+_<=(3:Int);omega,by show 43860<=43860+_/\43860+_<=(43865:Int);omega⟩ (by omega);dsimp only at this;rw[wfj] at this;exact this
   .exact⟨rfl,⟨rfl,rfl,rfl,rfl,rfl,λj hj=>by show mgC _=mgC _;rw[show atM (lst g c) j=g j from wxp g c _ hj]⟩,rQ7,rQ7,trivial⟩
  .refine⟨rfl,rfl,rfl,⟨by omega,by omega⟩,⟨by omega,by omega⟩,λc g a' hc ha' hg=>⟨λ_ _=>rfl,⟨trivial,trivial⟩,λ_ _=>rfl,λ_ _=>rfl,λ_ _=>rfl,[(0,.cells [.view 1 n (wac v),.q a'] 27),(1,.row 40 15 0 (wad (atM [])) false),(2,.row 61 5 c (wae (atR (lst g c))) false),(3,.row 97 5 0 (wag (atT [])) false)],?_,?_⟩⟩
   rotate_left
   .have:=hR ⟨fidF (waa n v a 3),1+waa n v (a+1) 3,43860+waa n v (a+1+1) 6,1+waa n v (a+1+1+1) 3,[],lst g c,[]⟩ a' ⟨Nat.le_trans (whn _) (by omega),by simp only[inR];omega,by simp only[inR];omega,⟨by simp,λr hr=>(by cases hr)⟩,⟨by rw[wfj];omega,wwt λj hj=>wrd (hg j hj).ok⟩,⟨by simp,λr hr=>(by cases hr)⟩⟩ (by simp) (by rw[wfj];omega) (by simp) ⟨whn _,by show 0<=4;omega,by show (lst g c).length<=4;rw[wfj];omega,by show 0<=2;omega,by show 1<=1+_/\1+_<=(3:Int);omega,by show 1<=1+_/\1+_<=(3:Int);omega,by show 43860<=43860+_/\43860+_<=(43865:Int);omega⟩ (by omega);dsimp only at this;rw[wfj] at this;exact this
   .exact⟨rfl,rQ7,⟨rfl,rfl,rfl,rfl,rfl,λj hj=>by
     show wae g j=wae (atR (lst g c)) j;unfold wae;rw[show atR (lst g c) j=g j from wxp g c _ hj]⟩,rQ7,trivial⟩
  .refine⟨⟨rfl,rfl,rfl,⟨by omega,by omega⟩,by omega,by omega⟩,⟨rfl,rfl,rfl,rfl,rQ7,rQ7,rQ7,trivial⟩,⟨r4.1,by omega⟩,⟨by omega,by omega⟩,λi hi hia hit=>⟨⟨trivial,trivial⟩,λ_ _=>rfl,λ_ _=>rfl,λ_ _=>rfl,_,wau _,?_⟩⟩;exact hR ⟨fidF (waa n v a 3),1+waa n v (a+1) 3,43860+waa n v (a+1+1) 6,1+waa n v (a+1+1+1) 3,[],[],i.ts⟩ i.a ⟨Nat.le_trans (whn _) (by omega),by simp only[inR];omega,by simp only[inR];omega,⟨by simp,λr hr=>(by cases hr)⟩,⟨by simp,λr hr=>(by cases hr)⟩,⟨by show i.ts.length<=1000;omega,hit⟩⟩ (by simp) (by simp) hi ⟨whn _,by show 0<=4;omega,by show 0<=4;omega,hi,by show 1<=1+_/\1+_<=(3:Int);omega,by show 1<=1+_/\1+_<=(3:Int);omega,by show 43860<=43860+_/\43860+_<=(43865:Int);omega⟩ (by omega)
 .exact h.elim
theorem wx1(hP:C.P=Tryz.prog):wa4 C 32 wij:=by
 rintro args objs R h;unfold wij at h;split at h
 .rename_i sz n f a t;obtain⟨rfl,rfl,hf,ha,hR⟩:=h;refine wal.frzO 3 (wal.frzO 2 (wal.frzO 1 (wx2 hP _ _ _ ⟨rfl,rfl,hf,ha,λF a' hF h1 h2 h3 hl ha'=>?_⟩)));have b1:Nat.ble F.ms.length F.ms.length=true:=Nat.ble_eq_true_of_le (lR7 _);have b2:Nat.ble F.rs.length F.rs.length=true:=Nat.ble_eq_true_of_le (lR7 _);have b3:Nat.ble F.ts.length F.ts.length=true:=Nat.ble_eq_true_of_le (lR7 _);refine⟨λ_ _=>rfl,λ_ _=>rfl,λ_ _=>rfl,?_⟩;have:=hR F a' hF hl ha';have c1:Nat.beq 2 1=false:=rfl;have c2:Nat.beq 3 1=false:=rfl;have c3:Nat.beq 3 2=false:=rfl;simpa[frzC,frzA,frz,rm,b1,b2,b3,c1,c2,c3] using this
 .exact h.elim
theorem w36(n:Nat)(v:Nat->Int)(a:Int)(R:oR7):wpFn te [(42,.det wbf),(80,.det wdc),(81,.det wdb),(88,.det wib),(89,.det wmi)] [] 0 Tryz.f36 [.ptr 0 0] [.cells [.view 1 n (wac v),.q a] 27] R=(letI z6:=((1:Int)<=9/\(9:Int)<=1000000:Prop);letI z5:=(a+1+1+1+1+1);letI z4:=4611686018427387904;letI z3:=4611686018427387000;letI z2:=(a+1+1+1+1+1+1+1);letI z1:=(a+1+1+1);letI z0:=vInt (wac v);(27=27/\1=1/\wac v=wac z0/\(0:Int)<=a/\a<=z3)/\(27=27/\1=1/\wac v=wac z0/\z6/\(0:Int)<=a+1/\a+1<=z4)/\inR .i64 ((1:Int)+waa n z0 (a+1) (9:Int))/\(27=27/\1=1/\wac v=wac z0/\((1:Int)<=5/\(5:Int)<=1000000)/\(0:Int)<=a+1+1/\a+1+1<=z4)/\wab (decide (waa n z0 (a+1+1) (5:Int)=0)) ((27=27/\1=1/\wac v=wac z0/\(0:Int)<=a+1+1+1/\a+1+1+1<=z3)/\(27=27/\1=1/\wac v=wac z0/\(0:Int)<=a+1+1+1+1/\a+1+1+1+1<=z3)/\(27=27/\1=1/\wac v=wac z0/\((1:Int)<=4/\(4:Int)<=1000000)/\(0:Int)<=a+1+1+1+1+1/\a+1+1+1+1+1<=z4)/\inR .i64 ((1440:Int)+waa n z0 z5 (4:Int))/\(27=27/\1=1/\wac v=wac z0/\(0:Int)<=a+1+1+1+1+1+1/\a+1+1+1+1+1+1<=z3)/\(27=27/\1=1/\wac v=wac z0/\z6/\(0:Int)<=a+1+1+1+1+1+1+1/\a+1+1+1+1+1+1+1<=z4)/\inR .i64 ((1:Int)+waa n z0 z2 (9:Int))/\(True/\True)/\R (.agg [.str (devF (waa n z0 a (3:Int))),.q ((1:Int)+waa n z0 (a+1) (9:Int)),.q 2,.str [],.str [],.q 0,.q 0,.q 0,.q 0,.str [],.str (outF (waa n z0 z1 (3:Int))),.str (idF (waa n z0 (a+1+1+1+1) (4:Int))),.q ((1440:Int)+waa n z0 z5 (4:Int)),.str (devF (waa n z0 (a+1+1+1+1+1+1) (3:Int))),.q ((1:Int)+waa n z0 z2 (9:Int))]) [(0,.cells [.view 1 n (wac v),.q (a+1+1+1+1+1+1+1+1)] 27)]) ((27=27/\1=1/\wac v=wac z0/\(0:Int)<=a+1+1+1/\a+1+1+1<=4611686018427386000)/\(True/\True)/\R (.agg [.str (devF (waa n z0 a (3:Int))),.q ((1:Int)+waa n z0 (a+1) (9:Int)),.q 1,.str (visV n z0 z1).o,.str (visV n z0 z1).p,.q (visV n z0 z1).per,.q (visV n z0 z1).day,.q (visV n z0 z1).st,.q (visV n z0 z1).pr,.str (visV n z0 z1).rep,.str [],.str [],.q 0,.str [],.q 0]) [(0,.cells [.view 1 n (wac v),.q (visA n z0 z1)] 27)])):=by kernel_rfl
theorem wzw(n:Nat)(v:Nat->Int)(a:Int):(visV n v a).Made/\(a<=visA n v a/\visA n v a<=a+7):=by
 have r1:=wa0 (show (1:Int)<=3 by omega) n v a;have r2:=wa0 (show (1:Int)<=4 by omega) n v (a+1);have r3:=wa0 (show (1:Int)<=4 by omega) n v (a+1+1);have r4:=wa0 (show (1:Int)<=100 by omega) n v (a+1+1+1);have r5:=wa0 (show (1:Int)<=7 by omega) n v (a+1+1+1+1);have r6:=wa0 (show (1:Int)<=4 by omega) n v (a+1+1+1+1+1);have hst:=stF (waa n v (a+1+1+1+1) 7).toNat (by omega);have ho:=wi6 (waa n v a 3).toNat (by omega);unfold visV visA;have hs:1<=we8 n v a/\we8 n v a<=5:=hst;generalize we8 n v a=st at hs ⊢;refine⟨⟨wt2 ho.1 (wd9 _) (by omega) (by omega) ?_,ho.2⟩,?_⟩
 .by_cases s5:st=5
  .subst s5;refine .inr (.inr ⟨rfl,by show (1:Int)<=100+_/\(100:Int)+_<=_;omega,?_⟩);show wbc (bif decide _ then idF 4 else _)=true/\¬ (bif decide _ then idF 4 else _)=_
   by_cases q:idF (waa n v (a+1+1+1+1+1+1) 4)=idF (waa n v (a+1) 4)
   .rw[decide_eq_true q];exact⟨wd9 _,wlg r2⟩
   .rw[decide_eq_false q];exact⟨wd9 _,q⟩
  .have e5:wdz st (idF (waa n v (a+1) 4)) (idF (waa n v (a+1+1+1+1+1+1) 4))=[]:=by unfold wdz;rw[decide_eq_false s5];rfl
   rw[e5]
   by_cases s3:st=3∨st=4
   .refine .inr (.inl ⟨s3,?_,rfl⟩);unfold wdu
    rcases s3 with s3 | s3<;>simp[s3]
   .refine .inl ⟨by omega,?_,rfl⟩;have:wdu st (100+waa n v (a+1+1+1+1+1) 4 * 5)=100+waa n v (a+1+1+1+1+1) 4 * 5:=by
     unfold wdu;rw[decide_eq_false (show ¬ st=3 by omega),decide_eq_false (show ¬ st=4 by omega)];rfl
    rw[this];omega
 .unfold wev
  cases decide (st=3) || decide (st=4)<;>cases decide (st=5)<;>simp only[cond_true,cond_false]<;>omega
theorem visX_ok(hP:C.P=Tryz.prog):wah C 89 wmi:=by
 rintro args objs U Os vc h hvc;unfold wmi at h;split at h<;>cases h;rename_i sz n f a t;obtain⟨rfl,rfl,hf,ha⟩:=hvc;rw[hf];generalize vInt f=v;have hw:vInt (wac v)=v:=rfl;refine wah.wp0 (prg hP) [(42,.det wbf),(80,.det wdc),(81,.det wdb),(43,.det S_id)] 3 (.cons (wcc hP) (.cons (whe hP) (.cons (wg4 hP) (.cons (wlf hP) .nil)))) (hP ▸ Tryz.func89) rfl rfl rfl ?_;rw[wvy,hw];have r1:=wa0 (show (1:Int)<=3 by omega) n v a;have r2:=wa0 (show (1:Int)<=4 by omega) n v (a+1);have r3:=wa0 (show (1:Int)<=4 by omega) n v (a+1+1);have r4:=wa0 (show (1:Int)<=100 by omega) n v (a+1+1+1);have r5:=wa0 (show (1:Int)<=7 by omega) n v (a+1+1+1+1);have r6:=wa0 (show (1:Int)<=4 by omega) n v (a+1+1+1+1+1);have hst:=stF (waa n v (a+1+1+1+1) 7).toNat (by omega);unfold visV visA we8;refine⟨⟨rfl,rfl,rfl,by omega,by omega⟩,⟨rfl,rfl,rfl,by omega,by omega⟩,⟨rfl,rfl,rfl,⟨by omega,by omega⟩,by omega,by omega⟩,by simp only[inR];omega,⟨rfl,rfl,rfl,⟨by omega,by omega⟩,by omega,by omega⟩,by simp only[inR];omega,⟨by omega,rfl,by omega⟩,⟨rfl,rfl,rfl,⟨by omega,by omega⟩,by omega,by omega⟩,⟨by omega,by omega⟩,⟨by omega,rfl⟩,?_⟩;generalize 1+List.getD [(0:Int),0,0,1,2,3,4] (waa n v (a+1+1+1+1) 7).toNat 0=st at *;have key:∀(pr:Int) (rep:List UInt8) (a':Int),pr=wdu st (100+waa n v (a+1+1+1+1+1) 4 * 5)->rep=wdz st (idF (waa n v (a+1) 4)) (idF (waa n v (a+1+1+1+1+1+1) 4))->a'=wev st (a+1+1+1+1+1)->
   (AV.agg [.str (outF (waa n v a 3)),.str (idF (waa n v (a+1) 4)),.q (1440+waa n v (a+1+1) 4),.q (43830+waa n v (a+1+1+1) 100),.q st,.q pr,.str rep]=AV.agg [.str (outF (waa n v a 3)),.str (idF (waa n v (a+1) 4)),.q (1440+waa n v (a+1+1) 4),.q (43830+waa n v (a+1+1+1) 100),.q st,.q (wdu st (100+waa n v (a+1+1+1+1+1) 4 * 5)),.str (wdz st (idF (waa n v (a+1) 4)) (idF (waa n v (a+1+1+1+1+1+1) 4)))]/\
   ([(0,.cells [.view 1 n (wac v),.q a'] 27)]:List (Nat×AObj))=[(0,.cells [.view 1 n (wac v),.q (wev st (a+1+1+1+1+1))] 27)]):=λpr rep a' h1 h2 h3=>by rw[h1,h2,h3];exact⟨rfl,rfl⟩
 refine⟨by simp only[inR];omega,wa7 (λs3=>wa7 (λs4=>⟨⟨rfl,rfl,rfl,⟨by omega,by omega⟩,by omega,by omega⟩,by simp only[inR];omega,by simp only[inR];omega,wak (λs5=>⟨⟨rfl,rfl,rfl,by omega,by omega⟩,wak (λq=>⟨trivial,wak (λq'=>absurd q' (wlg r2)) (λq'=>⟨⟨trivial,trivial⟩,?_⟩)⟩) (λq=>⟨⟨trivial,trivial⟩,?_⟩)⟩) (λs5=>⟨⟨trivial,trivial⟩,?_⟩)⟩)
  (λs4=>wak (λs5=>absurd s5 (by omega)) (λs5=>⟨⟨trivial,trivial⟩,?_⟩))) (λs3=>wak (λs5=>absurd s5 (by omega)) (λs5=>⟨⟨trivial,trivial⟩,?_⟩))⟩
 .refine key _ (idF 4) _ ?_ ?_ ?_
  .simp[wdu,s3,s4]
  .unfold wdz;rw[decide_eq_true s5,decide_eq_true q];rfl
  .simp[wev,s5]
 .refine key _ _ _ ?_ ?_ ?_
  .simp[wdu,s3,s4]
  .unfold wdz;rw[decide_eq_true s5,decide_eq_false q];rfl
  .simp[wev,s5]
 .refine key _ _ _ ?_ ?_ ?_
  .simp[wdu,s3,s4]
  .unfold wdz;rw[decide_eq_false s5];rfl
  .simp[wev,s3,s4,s5]
 .refine key _ _ _ ?_ ?_ ?_
  .simp[wdu,s4]
  .unfold wdz;rw[decide_eq_false s5];rfl
  .simp[wev,s4]
 .refine key _ _ _ ?_ ?_ ?_
  .simp[wdu,s3]
  .unfold wdz;rw[decide_eq_false s5];rfl
  .simp[wev,s3]
theorem w5s(n:Nat)(v:Nat->Int)(a:Int):(msgV n v a).Made/\(a<=msgA n v a/\msgA n v a<=a+10):=by
 have r1:=wa0 (show (1:Int)<=3 by omega) n v a;have r2:=wa0 (show (1:Int)<=9 by omega) n v (a+1);have r4:=wa0 (show (1:Int)<=3 by omega) n v (a+1+1+1);have r6:=wa0 (show (1:Int)<=4 by omega) n v (a+1+1+1+1+1);have r7:=wa0 (show (1:Int)<=3 by omega) n v (a+1+1+1+1+1+1);have r8:=wa0 (show (1:Int)<=9 by omega) n v (a+1+1+1+1+1+1+1);have hd:=wl0 (waa n v a 3).toNat (by omega);have ho:=wi6 (waa n v (a+1+1+1) 3).toNat (by omega);have hd':=wl0 (waa n v (a+1+1+1+1+1+1) 3).toNat (by omega);obtain⟨hx,h1,h2⟩:=wzw n v (a+1+1+1);unfold msgV msgA
 cases decide (waa n v (a+1+1) 5=0) with
 |true=>exact⟨⟨wv5 hd.1 (by omega) (wuu ho.1 (wd9 _) (by omega)) hd'.1 (by omega),hd.2,zL7 _,ho.2,hd'.2⟩,by simp only[cond_true];omega⟩
 |false=>exact⟨⟨wv4 hd.1 (by omega) hx.ok,hd.2,hx.o,zL7 _,zL7 _⟩,by simp only[cond_false];omega⟩
theorem w5z(hP:C.P=Tryz.prog):wah C 36 wnm:=by
 rintro args objs U Os vc h hvc;unfold wnm at h;split at h<;>cases h;rename_i sz n f a t;obtain⟨rfl,rfl,hf,ha⟩:=hvc;rw[hf];generalize vInt f=v;have hw:vInt (wac v)=v:=rfl;refine wah.wp0 (prg hP) [(42,.det wbf),(80,.det wdc),(81,.det wdb),(88,.det wib),(89,.det wmi)] 0 (.cons (wcc hP) (.cons (whe hP) (.cons (wg4 hP) (.cons (wyv hP) (.cons (visX_ok hP) .nil))))) (hP ▸ Tryz.func36) rfl rfl rfl ?_;rw[w36,hw];have r2:=wa0 (show (1:Int)<=9 by omega) n v (a+1);have r6:=wa0 (show (1:Int)<=4 by omega) n v (a+1+1+1+1+1);have r8:=wa0 (show (1:Int)<=9 by omega) n v (a+1+1+1+1+1+1+1);unfold msgV msgA
 refine⟨⟨rfl,rfl,rfl,by omega,by omega⟩,⟨rfl,rfl,rfl,⟨by omega,by omega⟩,by omega,by omega⟩,by simp only[inR];omega,⟨rfl,rfl,rfl,⟨by omega,by omega⟩,by omega,by omega⟩,wak (λq=>⟨⟨rfl,rfl,rfl,by omega,by omega⟩,⟨rfl,rfl,rfl,by omega,by omega⟩,⟨rfl,rfl,rfl,⟨by omega,by omega⟩,by omega,by omega⟩,by simp only[inR];omega,⟨rfl,rfl,rfl,by omega,by omega⟩,⟨rfl,rfl,rfl,⟨by omega,by omega⟩,by omega,by omega⟩,by simp only[inR];omega,⟨trivial,trivial⟩,?_⟩)
  (λq=>⟨⟨rfl,rfl,rfl,by omega,by omega⟩,⟨trivial,trivial⟩,?_⟩)⟩
 .rw[decide_eq_true q];exact⟨rfl,rfl⟩
 .rw[decide_eq_false q];exact⟨rfl,rfl⟩
end Go.Eng
