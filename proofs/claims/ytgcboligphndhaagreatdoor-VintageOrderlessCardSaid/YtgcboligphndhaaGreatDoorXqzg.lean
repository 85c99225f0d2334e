/- The tied card of VintageOrderless: its statement is 'VintageOrderlessCardSaid' of the given cards. -/
import Derived.Test.YtgcboligphndhaaGreatDoorXqzf
import Derived.Test.YtgcboligphndhaaGreatDoorXqp
import Derived.Test.YtgcboligphndhaaGreatDoorCards
import Derived.Test.YtgcboligphndhaaGreatDoorTie
import Derived.SevenTiedAt
namespace Go.Eng
open Go.Proofs Go.RowKit
variable {C:Ctx} [C.Loose]
set_option maxRecDepth 20000
theorem nf_vo(n:Nat)(v:Nat->Int)(R:oR7):wpFn te [(38,.rel wnp),(50,.rel wnj),(42,.det wa7),(39,.det wl2),(44,.det wlf),(46,.det wm5),(48,.det wm9),(40,.det wlv),(31,.det wne)] [] 0 Tryz.f13 [.view 1 n (wab v)] [] R=(letI z14:=R (.bool false) [];letI z13:=((1:Int)<=7/\(7:Int)<=1000000:Prop);letI z10:=vInt (wab v);27=27/\1=1/\wab v=wab z10/\((0:Int)<=0/\(0:Int)<=4611686018427300000)/\∀(L:List FL) (a':Int),letI z15:=L.length;letI z11:=flOf (wac (atF L));letI z8:=nrmL okV z11 z15;letI z7:=(L.length<=1000/\wac (atF L)=wac z11/\∀(i:Nat),i<L.length->FL.Gd (flOf (wac (atF L)) i));L.length<=8->(0:Int)<=a'/\a'<=0+25000->(∀(F:FL),F∈L->FL.Tn F)->27=27/\1=1/\wab v=wab z10/\((0:Int)<=a'/\a'<=4611686018427360000)/\wac (atF L)=wac z11/\L.length<=100/\∀(L_1:List FL) (a'_1:Int),letI z16:=L_1.length;letI z12:=flOf (wac (atF L_1));letI z9:=nrmL okV z12 z16;letI z6:=(L_1.length<=1000/\wac (atF L_1)=wac z12/\∀(i:Nat),i<L_1.length->FL.Gd (flOf (wac (atF L_1)) i));letI z5:=(cfL okV z12 z16 ((43860:Int)+waa n z10 a'_1 (7:Int)));letI z4:=(vwL okV z12 z16 ((43860:Int)+waa n z10 a'_1 (7:Int)));letI z3:=(cfL okV z11 z15 ((43860:Int)+waa n z10 a'_1 (7:Int)));letI z2:=(vwL okV z11 z15 ((43860:Int)+waa n z10 a'_1 (7:Int)));letI z1:=(chgL okV z12 z16 ((43860:Int)+waa n z10 a'_1 (7:Int)) ((43860:Int)+waa n z10 (a'_1+1) (7:Int)));letI z0:=(chgL okV z11 z15 ((43860:Int)+waa n z10 a'_1 (7:Int)) ((43860:Int)+waa n z10 (a'_1+1) (7:Int)));L_1.length<=2 * L.length->a'<=a'_1/\a'_1<=a'+200->(∀(x:FL),x∈L_1↔x∈lst z11 z15)->(27=27/\1=1/\wab v=wab z10/\z13/\(0:Int)<=a'_1/\a'_1<=4611686018427387904)/\inR .i64 ((43860:Int)+waa n z10 a'_1 (7:Int))/\(27=27/\1=1/\wab v=wab z10/\z13/\(0:Int)<=a'_1+1/\a'_1+1<=4611686018427387904)/\inR .i64 ((43860:Int)+waa n z10 (a'_1+1) (7:Int))/\z7/\z6/\(z8.length<=1000000/\z9.length<=1000000/\wac (atF z8)=wac (flOf (wac (atF z8)))/\wac (atF z9)=wac (flOf (wac (atF z9)))/\(∀(i:Nat),i<z8.length->FL.Rg (flOf (wac (atF z8)) i))/\∀(i:Nat),i<z9.length->FL.Rg (flOf (wac (atF z9)) i))/\wad (decide (z8.length=z9.length) && eqFs (flOf (wac (atF z8))) (flOf (wac (atF z9))) z8.length) (z7/\z6/\(z2.length<=1000000/\z4.length<=1000000/\wac (atF z2)=wac (flOf (wac (atF z2)))/\wac (atF z4)=wac (flOf (wac (atF z4)))/\(∀(i:Nat),i<z2.length->FL.Rg (flOf (wac (atF z2)) i))/\∀(i:Nat),i<z4.length->FL.Rg (flOf (wac (atF z4)) i))/\wad (decide (z2.length=z4.length) && eqFs (flOf (wac (atF z2))) (flOf (wac (atF z4))) z2.length) (z7/\z6/\(z3.length<=1000000/\z5.length<=1000000/\wac (atF z3)=wac (flOf (wac (atF z3)))/\wac (atF z5)=wac (flOf (wac (atF z5)))/\(∀(i:Nat),i<z3.length->FL.Rg (flOf (wac (atF z3)) i))/\∀(i:Nat),i<z5.length->FL.Rg (flOf (wac (atF z5)) i))/\wad (decide (z3.length=z5.length) && eqFs (flOf (wac (atF z3))) (flOf (wac (atF z5))) z3.length) (z7/\z6/\(z0.length<=1000000/\z1.length<=1000000/\wac (atF z0)=wac (flOf (wac (atF z0)))/\wac (atF z1)=wac (flOf (wac (atF z1)))/\(∀(i:Nat),i<z0.length->FL.Rg (flOf (wac (atF z0)) i))/\∀(i:Nat),i<z1.length->FL.Rg (flOf (wac (atF z1)) i))/\wad (decide (z0.length=z1.length) && eqFs (flOf (wac (atF z0))) (flOf (wac (atF z1))) z0.length) (True/\R (.bool true) []) z14) z14) z14) z14):=by kernel_rfl
theorem wx8(hP:C.P=Tryz.prog)(hL:∀w,C.laid w->LaidW w):waf C 39 wl2:=by
 rintro args objs U Os vc h hvc;unfold wl2 at h;split at h<;>cases h;rename_i n f;obtain⟨hn,hf,hg⟩:=hvc;generalize flOf f=g at *;subst hf;refine wan.frzO 0 ((nrm_at hP hL g n hn hg).mono ?_);rintro u O ⟨rfl,rfl⟩;have hb:Nat.ble (nrmL okV g n).length (nrmL okV g n).length=true:=Nat.ble_eq_true_of_le (lR7 _);exact⟨λ_ _=>rfl,by simp[frzC,frzA,frz,hb],rfl⟩
theorem w27(hP:C.P=Tryz.prog)(hL:∀w,C.laid w->LaidW w):waf C 46 wm5:=by
 rintro args objs U Os vc h hvc;unfold wm5 at h;split at h<;>cases h;rename_i n f d;refine wan.frzO 0 ((conf_ok hP hL [.view 7 n f,.q d] [] _ _ _ rfl hvc).mono ?_);rintro u O ⟨rfl,rfl⟩;have hb:Nat.ble (cfL okV (flOf f) n d).length (cfL okV (flOf f) n d).length=true:=Nat.ble_eq_true_of_le (lR7 _);exact⟨λ_ _=>rfl,by simp[frzC,frzA,frz,hb],rfl⟩
theorem wjg(X:List FL):(decide (X.length=X.length) && eqFs (atF X) (atF X) X.length)=true:=by rw[decide_eq_true rfl,wvh];rfl
theorem lGd{L:List FL}(h:∀F∈L,F.Tn):∀i,i<L.length->(atF L i).Gd:=λ_i hi=>(h _ (wdt hi)).gd
theorem rgL{X:List FL}(h:∀x∈X,x.Gd):∀i,i<X.length->(atF X i).Rg:=λ_i hi=>(h _ (wdt hi)).rg
theorem cf_gd{g:Nat->FL}{n:Nat}{d:Int}(hg:∀i,i<n->(g i).Gd):∀x∈cfL okV g n d,x.Gd:=λx hx=>wqd hg x (bad_mem hx)
theorem cf_len(g:Nat->FL)(n:Nat)(d:Int):(cfL okV g n d).length<=n:=Nat.le_trans (why _ _ _) (wqc g n d)
theorem ch_gd{g:Nat->FL}{n:Nat}{d e:Int}(hg:∀i,i<n->(g i).Gd):∀x∈chgL okV g n d e,x.Gd:=λx hx=>wi5 hg x (List.mem_filter.1 hx).1
theorem ch_len(g:Nat->FL)(n:Nat)(d e:Int):(chgL okV g n d e).length<=n:=Nat.le_trans (List.length_filter_le _ _) (wi4 g n e)
theorem vo_ok(hP:C.P=Tryz.prog)(hL:∀w,C.laid w->LaidW w)(n:Nat)(v:Nat->Int):ADet C 13 [.view 1 n (wab v)] [] (.bool true) []:=by
 refine waf.wp0 (prg hP) [(38,.rel wnp),(50,.rel wnj),(42,.det wa7),(39,.det wl2),(44,.det wlf),(46,.det wm5),(48,.det wm9),(40,.det wlv),(31,.det wne)] 0 (.cons (w1d hP) (.cons (wwx hP) (.cons (wb0 hP) (.cons (wx8 hP hL) (.cons (wrz hP hL) (.cons (w27 hP hL) (.cons (chg_ok hP hL) (.cons (wxl hP) (.cons (w33 hP hL) .nil))))))))) (hP ▸ Tryz.func13) rfl rfl rfl ?_;rw[nf_vo,show vInt (wab v)=v from rfl];refine⟨rfl,rfl,rfl,⟨by omega,by omega⟩,λL a hl ha hT=>?_⟩
 repeat rw[wcr]
 refine⟨rfl,rfl,rfl,⟨by omega,by omega⟩,rfl,by omega,λM b hM hb hset=>?_⟩;have r1:=was (show (1:Int)<=7 by omega) n v b;have r2:=was (show (1:Int)<=7 by omega) n v (b+1)
 repeat rw[wcr]
 rw[wp4] at hset;have hTM:∀F∈M,F.Tn:=λF hF=>hT F ((hset F).1 hF);have gL:=lGd hT;have gM:=lGd hTM;have e:∀x,x∈lst (atF M) M.length↔x∈lst (atF L) L.length:=λx=>by rw[wp4,wp4];exact hset x
 rw[wtf e,wo1 e,w3j e,w3g e];have rx:inR .i64 (43860+waa n v b 7):=by simp only[inR];omega
 have ry:inR .i64 (43860+waa n v (b+1) 7):=by simp only[inR];omega
 generalize 43860+waa n v b 7=x at *;generalize 43860+waa n v (b+1) 7=y at *;have g0:=wpn gL;have g1:=wi5 (d:=x) gL;have g2:=cf_gd (d:=x) gL;have g3:=ch_gd (d:=x) (e:=y) gL;have l0:=wpm (atF L) L.length;have l1:=wi4 (atF L) L.length x;have l2:=cf_len (atF L) L.length x;have l3:=ch_len (atF L) L.length x y;rw[wjg,wjg,wjg,wjg]
 repeat rw[condP_true]
 exact⟨⟨rfl,rfl,rfl,⟨by omega,by omega⟩,by omega,by omega⟩,rx,⟨rfl,rfl,rfl,⟨by omega,by omega⟩,by omega,by omega⟩,ry,⟨by omega,rfl,gL⟩,⟨by omega,rfl,gM⟩,⟨by omega,by omega,rfl,rfl,rgL g0,rgL g0⟩,⟨by omega,rfl,gL⟩,⟨by omega,rfl,gM⟩,⟨by omega,by omega,rfl,rfl,rgL g1,rgL g1⟩,⟨by omega,rfl,gL⟩,⟨by omega,rfl,gM⟩,⟨by omega,by omega,rfl,rfl,rgL g2,rgL g2⟩,⟨by omega,rfl,gL⟩,⟨by omega,rfl,gM⟩,⟨by omega,by omega,rfl,rfl,rgL g3,rgL g3⟩,trivial,rfl,rfl⟩
end Go.Eng
namespace Go.Eng
open Go.Proofs Go.RowKit Go.ChangeShapes Go.WideShapes Go.ChangeAt
theorem params_Ol:Tryz.f13.params=#[23]:=by kernel_rfl
set_option maxRecDepth 100000 in
theorem w1f(os:Os)(started:os.Started)(H:Type)(enc:TypeId×Value->H):
  ReturnsInHanded {} Tryz.checked os 13 .any (λw args=>(Go.Proofs.YtgcboligphndhaaGreatDoor.Rows.vintageOrderlessSpec.pre enc Tryz.prog Tryz.f13 [] false w args/\laidMetH Tryz.prog Go.Proofs.YtgcboligphndhaaGreatDoor.Rows.vintageOrderlessRow.laid w)/\sizedMet enc Tryz.prog Tryz.f13 (OpenSpec.ofChange Go.Proofs.YtgcboligphndhaaGreatDoor.Rows.vintageOrderlessSpec) false w args)
   (Go.Proofs.YtgcboligphndhaaGreatDoor.Rows.vintageOrderlessSpec.post enc Tryz.prog Tryz.f13 false true false false):=by
 refine w19 (C:=Tryz.checked) (X:=λw _=>laidMetH Tryz.prog Go.Proofs.YtgcboligphndhaaGreatDoor.Rows.vintageOrderlessRow.laid w) (λ_ _ _ hh h=>h.of_heap hh) ownK started (by kernel_rfl) Tryz.func13
  (ChangeSpec.witness_at (enc:=enc) (C:=Tryz.checked) (os:=os) (X:=λw _=>laidMetH Tryz.prog Go.Proofs.YtgcboligphndhaaGreatDoor.Rows.vintageOrderlessRow.laid w) false (wua os) #[.slice none 0 0] 8 rfl (by kernel_rfl) (by kernel_rfl) (by kernel_rfl) (by kernel_rfl) (by kernel_rfl) (w1k os _)) ?_
 intro W base args ds gs before hval0 hW hL hsh;have hval:∀(j:Nat) t v,Tryz.f13.params[j]?=some t->args[j]?=some v->Value.okWide Tryz.prog W .any base t v:=hval0;have hW':=hW;obtain⟨p,q,hA0,hV,rfl,hfz,hnd⟩:=hW;have hA:DataW.TrodAll enc Tryz.prog W 0 (λ_=>true) true Tryz.f13.params.toList args.toList ds p:=hA0;rw[params_Ol] at hA hval;obtain⟨v0,vs0,d0,ds0,p0,q0,hargs,rfl,rfl,h0,r0⟩:=trodAll_cons hA;obtain⟨rfl,rfl,rfl⟩:=trodAll_nil r0;obtain rfl:args=#[v0]:=by cases args;simp_all
 obtain⟨rfl,rfl⟩:=trodVars_none hV;obtain⟨a0,len0,cap0,rfl⟩:=okWide_slice undIs (hval 0 23 v0 rfl rfl);have k0:=h0;have lt0:∀x∈p0,x.block<W.heap.size:=by obtain⟨m,hm⟩:=k0;exact DataW.trod_lt m _ _ _ hm
 obtain⟨m0,hm0⟩:=h0;obtain⟨A0,n0,c0,w0,e0,V0⟩:=wxs hm0;have e0:[Value.slice a0 len0 cap0]=[Value.slice A0 n0 c0]:=e0;simp only[List.cons.injEq,and_true] at e0;rw[← e0] at V0;have lw:=w1l hL hsh;refine(ADet.top (C:=cx) (vo_ok rfl (λ_ h=>h) n0 w0) lw (gsz_le lw) (cargs:=[.slice a0 len0 cap0]) rfl (λj x u hx hu=>?_)).mono λe W' ⟨he,bel⟩=>?_
 ·match j with
  |0=>obtain rfl:=Option.some.inj hx;obtain rfl:=Option.some.inj hu;exact V0
  |j+1=>simp at hx
 ·subst he;exact⟨_,rfl,_,_,_,[],_,[],hW',trodAll_mk1 (shut_bool (show Tryz.prog.underlying 4=some .bool by kernel_rfl) _),(trodAll_cons_mk (Below.trod wub (by kernel_rfl) (of_decide_eq_true (by kernel_rfl)) k0 bel lt0) trodAll_mk0),rfl,bel.frame _,λh=>by cases h⟩
set_option maxRecDepth 100000 in
theorem over_Ol:Go.Proofs.YtgcboligphndhaaGreatDoor.Rows.vintageOrderlessRow.holds Go.Proofs.YtgcboligphndhaaGreatDoor.Tryz.pinned (OpenSpec.ofChange Go.Proofs.YtgcboligphndhaaGreatDoor.Rows.vintageOrderlessSpec):=
 OpenClaim.holds_of_wide 13 Tryz.f13 rfl rfl rfl rfl rfl rfl rfl ⟨rfl,rfl,rfl,rfl,rfl⟩ rfl rfl rfl rfl rfl (by kernel_rfl) Tryz.func13 w3d
  inst_Ol (by unfold Func.isWrapper;rw[if_neg (of_decide_eq_false (by kernel_rfl))];exact⟨rfl,rfl⟩)
  (λos started H enc _=>w1f os started H enc)
end Go.Eng
namespace Go.Proofs.YtgcboligphndhaaGreatDoor
open Go
def harB : Bool × String := (true, "40fb3bd35b79f194dc6e91eb15eecf1db62dc7e1bded180275d4dc3755fccfaf")
set_option maxRecDepth 100000 in
theorem mainB:Tryz.prog.mainIs=some (harB.1,harB.2.toList):=by kernel_rfl
set_option maxRecDepth 100000 in
theorem looksB:true=Tryz.prog.looks []:=by kernel_rfl
end Go.Proofs.YtgcboligphndhaaGreatDoor
namespace Go.Proofs.YtgcboligphndhaaGreatDoor
open Go
set_option maxRecDepth 100000 in
theorem wf_Ol:Rows.vintageOrderlessRow.wfByText (OpenSpec.ofChange Rows.vintageOrderlessSpec)=true:=by kernel_rfl
set_option maxRecDepth 100000 in
theorem goes_Ol:false=Rows.vintageOrderlessRow.goesBy Tryz.prog:=by kernel_rfl
theorem w0r : Tryz.prog.funcNamed "priceoffice/priceofficelaw15.VintageOrderless" = some 13 := by kernel_rfl
theorem wxb:Tryz.prog.wantsStandIn 23=false:=by kernel_rfl
theorem card_Ol:Rows.VintageOrderlessCardSaid:=
 Claim7.holds_tied_plain_at .later [] [.data,.data,.data,.data,.sentinel,.sentinel,.pinned] true harB true
  Go.Eng.over_Ol (λ_ h=>by cases h) wf_Ol (λ_ h=>by cases h) vintageOrderless_row_tie rfl ⟨rfl,rfl⟩ mainB rfl
  (λf fn hf hfn=>by
   obtain rfl:f=13:=Option.some.inj (w0r.symm.trans hf) |>.symm;obtain rfl:fn=Tryz.f13:=(Option.some.inj (Tryz.func13.symm.trans hfn)).symm;exact⟨looksB,λj t ht=>by
    rw[Go.Eng.params_Ol] at ht;have h3:t=23:=by
     rcases j with _ | j
     ·exact by simpa using ht.symm
     ·simp at ht
    rcases h3 with rfl
    ·exact wxb⟩)
  goes_Ol
end Go.Proofs.YtgcboligphndhaaGreatDoor
