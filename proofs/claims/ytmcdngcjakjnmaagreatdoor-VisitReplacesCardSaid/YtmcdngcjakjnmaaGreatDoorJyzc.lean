/- The reference of the products. -/
import Derived.Test.YtmcdngcjakjnmaaGreatDoorJyzb
namespace Go.Eng
open Go.Proofs Go.RowKit
variable {C:Ctx} [C.Loose]
set_option maxRecDepth 20000
theorem nf_rpl(R:List MG)(o p:List UInt8)(k:Nat)(P:Nat->Prop)(Q:eR7):waq ⟨te,[(55,.det (wl1 R)),(65,.det wmx),(66,.det wnj)],[],0,54,0⟩ (wav Tryz.f31 3) [1,7,8] [] [6] (wl7 R o p) P Q (wl7 R o p k)=(letI z10:=(rpK R o p k).length+1;letI z9:=TI.mk TypeDesc.string 1 16 (Value.string (ByteArray.mk #[])) false;letI z8:=entG keyS vwM (wai R);letI z5:=wau (atG (rpK R o p k));letI z3:=(∀(i:Nat),i<(rpK R o p k).length->true=true:Prop);letI z2:=(rpK R o p k).length;letI z4:=(z3/\∃(O':oL7),wac [(0,.row 9 1 z2 z5 false)] O'/\Q .ret (St.mk [(6,.own 0 z2)] O' 1 []));letI z0:=(serL R o (atG (rpK R o p k) ((z2:Int) - (1:Int)).toNat));letI z7:=z0.length;letI z6:=waw (atX z0);letI z1:=((0:Int)<=ixB (λ(i:Nat)=>finB (vtOf z6 i)) z7/\ixB (λ(i:Nat)=>finB (vtOf z6 i)) z7<(z7:Int)/\7=7:Prop);inR .i64 ((z2:Int) - (1:Int))/\((0:Int)<=(z2:Int) - (1:Int)/\(z2:Int) - (1:Int)<(z2:Int))/\(((z2:Int) - (1:Int)).toNat<(rpK R o p k).length/\1=1)/\((wai R).length=(wai R).length/\entF z8=entF z8/\(visL R).length=(visL R).length/\wam (atS (visL R))=wam (atS (visL R))/\BkOK R)/\(z0.length<=1000000/\waw (atX z0)=waw (vtOf z6))/\wab (decide (ixB (λ(i:Nat)=>finB (vtOf z6 i)) z7<0)) z4 (z1/\wab (!decide ((atX z0 (ixB (λ(i:Nat)=>finB (vtOf z6 i)) z7).toNat).st=5)) z4 (z1/\z3/\(9=9/\false=false/\(rpK R o p k).length=(rpK R o p k).length/\(rpK R o p k).length<=1000000/\wau (atG (rpK R o p k))=wau (vStr z5))/\z3/\wab (decide ((0:Int)<=ixB (λ(i:Nat)=>decide ((atX z0 (ixB (λ(i:Nat)=>finB (vtOf z6 i)) z7).toNat).rep=vStr z5 i)) z2)) (z3/\∃(O':oL7),wac [(0,.row 9 1 z2 (wau (vStr z5)) false)] O'/\Q .ret (St.mk [(6,.own 0 z2)] O' 1 [])) (z1/\(1<=16777216/\1=1/\1<=9223372036854775807)/\((1<=1/\1=1)/\(rpK R o p k).length<=(rpK R o p k).length/\1=1/\9=9/\1=1/\(rpK R o p k).length+1<=9223372036854775807/\z10 * TI.bytes z9<=140737488355328)/\∃(i':Nat),(TEq [(1,.str o),(7,.ptr 0 0),(8,.own 1 z10)] [(1,.str o),(7,.ptr 0 0),(8,.own 1 (rpK R o p i').length)]/\wac [(0,.cells [AV.vmap (wai R).length (entF z8),.view 3 (visL R).length (wam (atS (visL R)))] 72),(1,.row 9 1 z10 (apF z2 (wau (vStr z5)) (wap (TI.sz z9) (.str (atX z0 (ixB (λ(i:Nat)=>finB (vtOf z6 i)) z7).toNat).rep::List.append [] (List.flatten (List.replicate (nat_lit 0) [.str ([])]))))) false)] [(0,.cells [AV.vmap (wai R).length (entF z8),.view 3 (visL R).length (wam (atS (visL R)))] 72),(1,.row 9 1 (rpK R o p i').length (wau (atG (rpK R o p i'))) false)])/\P i')))):=by kernel_rfl
theorem nf_repl(g:Nat->MG)(n:Nat)(R:List MG)(o p:List UInt8)(Q:AV->oL7->Prop):wpFn te [(38,.det wg9)] [(3,wol R o p)] 0 Tryz.f31 [.view 15 n (waa g),.str o,.str p] [] Q=(letI z1:=([(1,.str o),(7,.ptr 0 0),(8,.own 1 1)]:tL7);letI z0:=wad (mgOf (waa g)) n;(n<=100000/\waa g=waa (mgOf (waa g))/\∀(i:Nat),i<n->MG.Sm (mgOf (waa g) i))/\(1<=16777216/\1=1/\1<=9223372036854775807)/\(TEq z1 z1/\wac [(0,.cells [AV.vmap (wai z0).length (entF (entG keyS vwM (wai z0))),.view 3 (visL z0).length (wam (atS (visL z0)))] 72),(1,.row 9 1 1 (wap (TI.sz (TI.mk TypeDesc.string 1 16 (Value.string (ByteArray.mk #[])) false)) (.str p::List.append [] (List.flatten (List.replicate (nat_lit 0) [.str ([])])))) false)] [(0,.cells [AV.vmap (wai R).length (entF (entG keyS vwM (wai R))),.view 3 (visL R).length (wam (atS (visL R)))] 72),(1,.row 9 1 1 (wau (atG (rpK R o p 0))) false)])/\BkOK R/\(∀(i:Nat),i<(rplL R o p).length->true=true)/\∃(O':oL7),wac [(0,.row 9 1 (rplL R o p).length (wau (atG (rplL R o p))) false)] O'/\Q (.own 0 (rplL R o p).length) O'):=by kernel_rfl
theorem wrs{l:List (List UInt8)}{i:Nat}(h:i<l.length):atG l i=l[i]:=by simp[atG,h]
theorem ct_mem(x:List UInt8)(l:List (List UInt8)):decide (0<=ixB (λi=>decide (x=atG l i)) l.length)=decide (x∈l):=by
 rw[decide_eq_decide,wkh.1];obtain⟨h1,h2⟩:=wii (λi=>decide (x=atG l i)) l.length;have hle:=wfw (λi=>decide (x=atG l i)) l.length
 constructor
 ·intro h;have e:=of_decide_eq_true (h2 h);rw[wrs h] at e;rw[e];exact List.getElem_mem h
 ·intro h;obtain⟨i,hi,e⟩:=List.getElem_of_mem h
  rcases Nat.lt_or_ge i (fstB (λi=>decide (x=atG l i)) l.length) with q | q
  ·have:=of_decide_eq_false (h1 i q);exact absurd (by simp[atG,hi,e]) this
  ·omega
theorem wwm(l:List (List UInt8))(x:List UInt8)(i:Nat)(hi:i<l.length+1):atG (l++[x]) i=if i<l.length then atG l i else x:=by
 unfold atG
 by_cases h:i<l.length
 ·simp[h,List.getElem?_append_left h]
 ·have:i=l.length:=by omega
  subst this;simp
theorem wyl(hP:C.P=Tryz.prog)(hL:∀w,C.laid w->LaidW w)(R:List MG)(o p:List UInt8):waf C 0 54 (wah Tryz.f31 3) (wol R o p):=by
 rintro st Q ⟨h0,hB,hQ⟩;refine waf.mk (prg hP) [(55,.det (wl1 R)),(65,.det wmx),(66,.det wnj)] 0 (.cons (ser_ok hP hL R) (.cons (ixv_ok hP) (.cons (cts_ok hP) .nil))) [1,7,8] [] [6] (wl7 R o p) (λk=>k<=R.length) (λk=>R.length - k) 0 (zL7 _) h0 (λk hk=>?_) (λi=>⟨λ_ _=>rfl,trivial⟩);rw[nf_rpl];have hlt:= @rpK_lt R o p k;have hend:= @ws3 R o p k hk;have hok:=wfk R o p k;have hlen:=hok.len;have hRl:=hB.len;have hst:rpK R o p (k+1)=bif goR R o (rpK R o p k) then rpK R o p k++[(repV R o (rpK R o p k)).rep] else rpK R o p k:=rfl
 have hpos:0<(rpK R o p k).length:=by
  obtain⟨tl,e,_⟩:=hok.hd;rw[e];simp
 generalize hout:rpK R o p k=out at *;have e1:(out.length:Int) - 1=((out.length - 1:Nat):Int):=by omega
 have hg:∀g:Nat->VT,vtOf (waw g)=g:=λ_=>rfl;have hs:∀g:Nat->List UInt8,vStr (wau g)=g:=λ_=>rfl;have e2:atG out (out.length - 1)=lstS out:=rfl;have hsl:=wsn R o (lstS out);have hix:ixB (λi=>finB (atX (serL R o (lstS out)) i)) (serL R o (lstS out)).length=bif decide (lasF (serL R o (lstS out))<(serL R o (lstS out)).length) then (lasF (serL R o (lstS out)):Int) else -1:=rfl
 have hgo:goR R o out=(decide (lasF (serL R o (lstS out))<(serL R o (lstS out)).length) && (decide ((atX (serL R o (lstS out)) (lasF (serL R o (lstS out)))).st=5) && !decide ((atX (serL R o (lstS out)) (lasF (serL R o (lstS out)))).rep∈out))):=rfl;have hrv:repV R o out=atX (serL R o (lstS out)) (lasF (serL R o (lstS out))):=rfl;rw[e1,tN7,e2];simp only[hg,hs];rw[hix];have fin:goR R o out=false->(∀(i:Nat),i<out.length->True)/\∃O',wac [(0,AObj.row 9 1 out.length (wau (atG out)) false)] O'/\Q .ret (St.mk [(6,.own 0 out.length)] O' 1 []):=λh=>by
  have:=hend h;subst this;exact⟨λ_ _=>trivial,_,was _,hQ⟩
 refine⟨by simp only[inR];omega,⟨by omega,by omega⟩,⟨by omega,by trivial⟩,⟨by trivial,by trivial,by trivial,by trivial,hB⟩,⟨by omega,by trivial⟩,?_⟩
 by_cases hj:lasF (serL R o (lstS out))<(serL R o (lstS out)).length
 ·rw[decide_eq_true hj,cond_true,tN7];rw[decide_eq_true hj,Bool.true_and] at hgo;rw[ct_mem];generalize atX (serL R o (lstS out)) (lasF (serL R o (lstS out)))=x at *;refine wag (λh=>absurd (Int.natCast_nonneg _) (Int.not_le.2 h)) (λ_=>⟨⟨by omega,by omega,by trivial⟩,wcl (λh2=>fin ?_) (λh2=>?_)⟩)
  ·rw[hgo,h2];rfl
  ·rw[h2,Bool.true_and] at hgo;refine⟨⟨by omega,by omega,by trivial⟩,λ_ _=>by trivial,⟨by trivial,by trivial,by trivial,by omega,by trivial⟩,λ_ _=>by trivial,waj (λh3=>fin ?_) (λh3=>?_)⟩
   ·rw[hgo,h3];rfl
   ·rw[h3,Bool.not_false] at hgo;rw[hgo,cond_true,hrv] at hst;have hk1:=hlt hgo;refine⟨⟨by omega,by omega,by trivial⟩,⟨by omega,by trivial,by omega⟩,⟨⟨lR7 _,by trivial⟩,lR7 _,by trivial,by trivial,by trivial,by omega,?_⟩,k+1,?_,by omega,by omega⟩
    ·show _ * 16<=_;omega
    ·rw[hst,lA7];refine⟨rfl,rfl,⟨rfl,rfl,rfl,rfl,rfl,λi hi=>?_⟩,trivial⟩;have hi:i<out.length+1:=hi;show apF out.length (wau (atG out)) _ i=[.str (atG (out++[x.rep]) i)];rw[wwm _ _ _ hi];unfold apF
     by_cases h:i<out.length
     ·rw[if_pos h,if_pos h];rfl
     ·have:i=out.length:=by omega
      subst this;rw[if_neg h,if_neg h,Nat.sub_self];rfl
 ·rw[decide_eq_false hj,cond_false];rw[decide_eq_false hj,Bool.false_and] at hgo;exact wag (λ_=>fin hgo) (λh=>absurd (by decide) h)
theorem wtd(hP:C.P=Tryz.prog)(hL:∀w,C.laid w->LaidW w):wae C 31 wc5:=by
 rintro args objs U Os vc h hvc;unfold wc5 at h;split at h<;>cases h;rename_i n f o p;obtain⟨hn,hf,hs⟩:=hvc;generalize mgOf f=g at *;subst hf;refine wat.frzO 0 ?_;refine wa9.wpL (prg hP) [(38,.det wg9)] [(3,wol (wad g n) o p)] 0 (.cons (wto hP hL) .nil) (hP ▸ Tryz.func31) rfl rfl rfl [(wah Tryz.f31 3,wol (wad g n) o p)] (by kernel_rfl) ⟨wyl hP hL _ o p,trivial⟩ ?_;rw[nf_repl];have hg:mgOf (waa g)=g:=rfl;rw[hg];have hb:Nat.ble (rplL (wad g n) o p).length (rplL (wad g n) o p).length=true:=Nat.ble_eq_true_of_le (lR7 _);refine⟨⟨hn,rfl,hs⟩,⟨by omega,by trivial,by omega⟩,⟨rfl,rfl,⟨rfl,rfl,rfl,rfl,rfl,λi hi=>?_⟩,trivial⟩,wwe hn hs,λ_ _=>rfl,_,was _,λ_ _=>rfl,?_⟩
 ·have:i=0:=by omega
  subst this;rfl
 ·constructor
  ·simp[frzC,frzA,frz,hb]
  ·rfl
theorem w0o(g:Nat->Int)(n k:Nat)(P:Nat->Prop)(Q:eR7):waq ⟨te,[],[],1,19,0⟩ (wav Tryz.f136 2) [0,3] [3] [] (wl8 g n) P Q (wl8 g n k)=(letI z1:=([(0,.row 124 1 n (uRow g) false)]:oL7);letI z0:=((∀(i:Nat),i<n->true=true)/\∃(O':oL7),wac z1 O'/\Q (.exit 0) (St.mk [(3,.q (k:Int))] O' 1 []):Prop);wab (decide ((0:Int)<(k:Int))) (inR .i64 ((k:Int) - (1:Int))/\((0:Int)<=(k:Int) - (1:Int)/\(k:Int) - (1:Int)<(n:Int))/\(((k:Int) - (1:Int)).toNat<n/\1=1)/\wab (decide (g ((k:Int) - (1:Int)).toNat=0)) (inR .i64 ((k:Int) - (1:Int))/\∃(i':Nat),(TEq [(0,.own 0 n),(3,.q ((k:Int) - (1:Int)))] [(0,.own 0 n),(3,.q (i':Int))]/\wac z1 z1)/\P i') z0) z0):=by kernel_rfl
theorem nf_rlow(f:Nat->List AV)(n:Nat)(Q:AV->oL7->Prop):wpFn te [] [(2,won (uOf f) n)] 0 Tryz.f136 [.own 0 n] [.row 124 1 n f false] Q=(letI z0:=([(0,.own 0 n),(3,.q (n:Int))]:tL7);(TEq z0 z0/\wac [(0,.row 124 1 n f false)] [(0,.row 124 1 n (uRow (uOf f)) false)])/\n<=1000/\(∀(i:Nat),i<n->true=true)/\∃(O':oL7),wac [(0,.row 124 1 n (uRow (uOf f)) false)] O'/\Q (.q (↑(lowI (uOf f) n):Int)) O'):=by kernel_rfl
theorem w0i(f:Nat->List AV)(n:Nat)(Q:AV->oL7->Prop):wpFn te [(136,.det wl9)] [] 0 Tryz.f115 [.own 0 n] [.row 124 1 n f false] Q=(letI z2:=wap 1 (List.flatten (List.replicate 0 [.int .u32 0]));letI z1:=(∀(i:Nat),i<n->nrefL (f i)=true:Prop);letI z0:=(↑(lowI (uOf f) n):Int);(0<=16777216/\1=1/\0<=9223372036854775807)/\z1/\(124=124/\false=false/\n=n/\n<=1000/\∀(i:Nat),i<n->f i=[.int .u32 (uOf f i)])/\z1/\((0:Int)<=z0/\z0<=(n:Int))/\((z0.toNat<=n/\1=1)/\0<=0/\1=1/\124=124/\1=1/\0+z0.toNat<=9223372036854775807/\(0+z0.toNat) * 4<=140737488355328)/\z1/\(∀(i:Nat),i<0+z0.toNat->nrefL (apF 0 z2 f i)=true)/\∃(O':oL7),wac [(0,.row 124 1 n f false),(1,.row 124 1 (0+z0.toNat) (apF 0 z2 f) false)] O'/\Q (.own 1 (0+z0.toNat)) O'):=by kernel_rfl
theorem w0s(v:Int)(Q:AV->oL7->Prop):wpFn te [(115,.det we7)] [] 0 Tryz.f89 [.int .u64 v] [] Q=(letI z4:=(List.flatten (List.replicate (nat_lit 0) [.int .u32 0]):List AV);letI z3:=(IntKind.wrap IntKind.u32 (v / (2:Int) ^ (32:Int).toNat));letI z2:=(IntKind.wrap IntKind.u32 (bits BinOp.and IntKind.u64 v (4294967295:Int)));letI z1:=(∀(i:Nat),i<2->nrefL (wap 1 (.int .u32 z2:: .int .u32 z3::List.append [] z4) i)=true:Prop);letI z0:=(wap 1 (.int .u32 z2:: .int .u32 z3::List.append [] z4));True/\True/\((0:Int)<=32/\(32:Int)<=(↑(IntKind.bits IntKind.u64):Int))/\True/\(2<=16777216/\1=1/\2<=9223372036854775807)/\z1/\(124=124/\false=false/\2=2/\2<=1000/\∀(i:Nat),i<2->wap 1 (.int .u32 z2:: .int .u32 z3::List.append [] z4) i=[.int .u32 (uOf z0 i)])/\z1/\Q (.view 1 (lowI (uOf z0) 2) (uRow (uOf z0))) []):=by kernel_rfl
theorem wzq(v:Int)(Q:AV->oL7->Prop):wpFn te [(89,.det wfb)] [] 0 Tryz.f54 [.q v] [] Q=(letI z1:=18446744073709551616;letI z0:=(IntKind.wrap IntKind.u64 ((0:Int) - (v+1))+1);wab (decide (v<0)) (inR .i64 (v+1)/\inR .i64 ((0:Int) - (v+1))/\True/\((0:Int)<=z0 % z1/\z0 % z1<z1)/\Q (.view 1 (lmN (z0 % z1)) (uRow (lmF (z0 % z1)))) []) (True/\((0:Int)<=IntKind.wrap IntKind.u64 v/\IntKind.wrap IntKind.u64 v<z1)/\Q (.view 1 (lmN (IntKind.wrap IntKind.u64 v)) (uRow (lmF (IntKind.wrap IntKind.u64 v)))) [])):=by kernel_rfl
theorem w0t(v:Int)(Q:AV->oL7->Prop):wpFn te [(54,.det we4)] [] 0 Tryz.f22 [.q v] [] Q=(((0:Int)<=v/\v<9223372036854775808)/\(True/\True)/\Q (.agg [.bool (decide (v<0)),.view 1 (lmN v) (uRow (lmF v)),.nil]) []):=by kernel_rfl
theorem w0b(n:Nat)(u w:Nat->Int)(k:Nat)(P:Nat->Prop)(Q:eR7):waq ⟨te,[],[],0,26,0⟩ (wav Tryz.f53 4) [0,1,12,13] [] [4] (wly n u w) P Q (wly n u w k)=(letI z0:=((0:Int)<=(k:Int)/\(k:Int)<(n:Int)/\1=1:Prop);wab (decide ((k:Int)<(n:Int))) (z0/\z0/\wab (!decide (u (k:Int).toNat=w (k:Int).toNat)) (Q .ret (St.mk [(4,.bool false)] [] 0 [])) (inR .i64 ((k:Int)+1)/\∃(i':Nat),some (St.mk [(0,.view 1 n (uRow u)),(1,.view 1 n (uRow w)),(12,.q (n:Int)),(13,.q ((k:Int)+1))] [] 0 [])=some (St.mk [(0,.view 1 n (uRow u)),(1,.view 1 n (uRow w)),(12,.q (n:Int)),(13,.q (i':Int))] [] 0 [])/\P i')) (Q (.exit 0) (St.mk [] [] 0 []))):=by kernel_rfl
theorem w0a(P:Nat->Prop)(Q:eR7):waq ⟨te,[],[],0,26,0⟩ (wav Tryz.f53 4) [0,1,12,13] [] [4] wlx P Q (wlx 0)=(Q (.exit 0) (St.mk [] [] 0 [])):=by kernel_rfl
theorem nf_sm1(n m:Nat)(u w:Nat->Int)(Q:AV->oL7->Prop):wpFn te [] [(4,wof n u w)] 0 Tryz.f53 [.view 1 n (uRow u),.view 1 m (uRow w)] [] Q=(wab (!decide ((n:Int)=(m:Int))) (Q (.bool false) []) (some (St.mk [(0,.view 1 n (uRow u)),(1,.view 1 m (uRow w)),(12,.q (n:Int)),(13,.q 0)] [] 0 [])=some (St.mk [(0,.view 1 n (uRow u)),(1,.view 1 n (uRow w)),(12,.q (n:Int)),(13,.q (↑0:Int))] [] 0 [])/\n<=1000/\wab (decide (fstB (λ(i:Nat)=> !decide (u i=w i)) n=n)) (Q (.bool true) []) (Q (.bool false) []))):=by kernel_rfl
theorem nf_sm1n(Q:AV->oL7->Prop):wpFn te [] [(4,woe)] 0 Tryz.f53 [.nil,.nil] [] Q=(some (St.mk [(0,.nil),(1,.nil),(12,.q 0),(13,.q 0)] [] 0 [])=some (St.mk [(0,.nil),(1,.nil),(12,.q 0),(13,.q (↑0:Int))] [] 0 [])/\Q (.bool true) []):=by kernel_rfl
theorem nf_sm2(a b:Bool)(n m:Nat)(u w:Nat->Int)(Q:AV->oL7->Prop):wpFn te [(53,.det wl3)] [] 0 Tryz.f21 [.agg [.bool a,.view 1 n (uRow u),.nil],.agg [.bool b,.view 1 m (uRow w),.nil]] [] Q=(wab (decide (a=b)) ((n<=1000/\m<=1000/\uRow u=uRow (uOf (uRow u))/\uRow w=uRow (uOf (uRow w)))/\wab (wje n (uOf (uRow u)) m (uOf (uRow w))) (True/\Q (.bool true) []) (Q (.bool false) [])) (Q (.bool false) [])):=by kernel_rfl
theorem nf_beV(a b:VT)(Q:AV->oL7->Prop):wpFn te [] [] 0 Tryz.f85 [.agg [.str a.o,.str a.p,.q a.per,.q a.day,.q a.st,.q a.pr,.str a.rep],.agg [.str b.o,.str b.p,.q b.per,.q b.day,.q b.st,.q b.pr,.str b.rep]] [] Q=(wab (!decide (a.o=b.o)) (Q (.bool (Op.bytesLess a.o b.o)) []) (wab (!decide (a.p=b.p)) (Q (.bool (Op.bytesLess a.p b.p)) []) (Q (.bool (decide (a.per<b.per))) []))):=by kernel_rfl
theorem nf_ends(a:VT)(Q:AV->oL7->Prop):wpFn te [] [] 0 Tryz.f73 [.agg [.str a.o,.str a.p,.q a.per,.q a.day,.q a.st,.q a.pr,.str a.rep]] [] Q=(wab (decide (a.st=4)) (Q (.bool true) []) (Q (.bool (decide (a.st=5))) [])):=by kernel_rfl
theorem w1l(g:Nat->VT)(n k:Nat)(P:Nat->Prop)(Q:eR7):waq ⟨te,[(73,.det wnh)],[],0,17,0⟩ (wav Tryz.f46 2) [2,6,7,8] [2] [2,3] (wmv g n) P Q (wmv g n k)=(letI z1:=([(0,.cells [.str [],.str [],.q 0,.q 0,.q 0,.q 0,.str []] 43)]:oL7);letI z0:=(g (k:Int).toNat);wab (decide ((k:Int)<(n:Int))) (((0:Int)<=(k:Int)/\(k:Int)<(n:Int)/\7=7)/\True/\wab (decide (z0.st=4) || decide (z0.st=5)) (Q .ret (St.mk [(2,.ptr 0 0),(3,.bool true)] [(0,.cells [.str z0.o,.str z0.p,.q z0.per,.q z0.day,.q z0.st,.q z0.pr,.str z0.rep] 43)] 1 [])) (inR .i64 ((k:Int)+1)/\∃(i':Nat),some (St.mk [(2,.ptr 0 0),(6,.view 7 n (waw g)),(7,.q (n:Int)),(8,.q ((k:Int)+1))] z1 1 [])=some (St.mk [(2,.ptr 0 0),(6,.view 7 n (waw g)),(7,.q (n:Int)),(8,.q (i':Int))] z1 1 [])/\P i')) (Q (.exit 0) (St.mk [(2,.ptr 0 0)] z1 1 []))):=by kernel_rfl
theorem nf_last(g:Nat->VT)(n:Nat)(Q:AV->oL7->Prop):wpFn te [] [(2,L_la g n)] 0 Tryz.f46 [.view 7 n (waw g)] [] Q=(letI z1:=([.str [],.str [],.q 0,.q 0,.q 0,.q 0,.str []]:List AV);letI z0:=(g (fstB (λ(i:Nat)=>finB (g i)) n));some (St.mk [(2,.ptr 0 0),(6,.view 7 n (waw g)),(7,.q (n:Int)),(8,.q 0)] [(0,.cells z1 43)] 1 [])=some (St.mk [(2,.ptr 0 0),(6,.view 7 n (waw g)),(7,.q (n:Int)),(8,.q (↑0:Int))] [(0,.cells z1 43)] 1 [])/\n<=1000000/\wab (decide (fstB (λ(i:Nat)=>finB (g i)) n<n)) ((True/\True)/\Q (.tuple [.agg [.str z0.o,.str z0.p,.q z0.per,.q z0.day,.q z0.st,.q z0.pr,.str z0.rep],.bool true]) []) ((True/\True)/\Q (.tuple [.agg z1,.bool false]) [])):=by kernel_rfl
theorem wwi(a b:List UInt8):Op.bytesLess a b=decide (cmpS a b<0):=by
 have:= @wiq a b
 cases q:Op.bytesLess a b with
 |true=>rw[decide_eq_true (this.2 q)]
 |false=>rw[decide_eq_false λh=>by rw[this.1 h] at q;cases q]
theorem ciS_dec(a b:Int):decide (a<b)=decide (cmpI a b<0):=by
 have:=wdt a b
 by_cases h:a<b
 ·rw[decide_eq_true h,decide_eq_true (by omega)]
 ·rw[decide_eq_false h,decide_eq_false (by omega)]
theorem ordS_if(a b:SL):ordS a b=if cmpS a.o b.o=0 then (if cmpS a.p b.p=0 then cmpI a.per b.per else cmpS a.p b.p) else cmpS a.o b.o:=by
 unfold ordS;simp only[orL]
 by_cases h1:cmpS a.o b.o=0
 ·by_cases h2:cmpS a.p b.p=0
  ·by_cases h3:cmpI a.per b.per=0<;>simp[h1,h2,h3]
  ·simp[h1,h2]
 ·simp[h1]
theorem and_lim{v:Int}(h0:0<=v)(h1:v<18446744073709551616):bits .and .u64 v 4294967295=v % 4294967296:=by
 obtain⟨a,rfl⟩:=Int.eq_ofNat_of_zero_le h0;have e1:(BitVec.ofInt 64 (a:Int)).toNat=a:=by
  rw[BitVec.ofInt_natCast,BitVec.toNat_ofNat];exact Nat.mod_eq_of_lt (by omega)
 have e2:(BitVec.ofInt 64 4294967295).toNat=2 ^ 32 - 1:=by decide
 show IntKind.u64.wrap ((BitVec.ofInt 64 (a:Int) &&& BitVec.ofInt 64 4294967295).toNat:Int)=_;rw[BitVec.toNat_and,e1,e2,Nat.and_two_pow_sub_one_eq_mod];show ((a % 4294967296:Nat):Int) % 18446744073709551616=_;omega
theorem wyq(hP:C.P=Tryz.prog)(g:Nat->Int)(n:Nat):waf C 1 19 (wah Tryz.f136 2) (won g n):=by
 have _:C.Loose:=inferInstance;rintro st Q ⟨h0,hn,hQ⟩;refine waf.mk (prg hP) [] 0 .nil [0,3] [3] [] (wl8 g n) (λk=>k<=n/\lowI g n=lowI g k) (λk=>k) n ⟨lR7 _,rfl⟩ h0 (λk hk=>?_) (λi=>⟨λ_ _=>rfl,trivial⟩);obtain⟨hkn,hz⟩:=hk;have fin:lowI g k=k->(∀i,i<n->true=true)/\∃O',wac [(0,AObj.row 124 1 n (uRow g) false)] O'/\Q (.exit 0) (St.mk [(3,.q k)] O' 1 []):=λh=>by
  rw[hz,h] at hQ;exact⟨λ_ _=>rfl,_,was _,hQ⟩
 rw[w0o];refine wag (λh1=>?_) (λh1=>fin (by rw[show k=0 by omega];rfl));obtain⟨j,rfl⟩:∃j,k=j+1:=⟨k - 1,by omega⟩;have e1:((j+1:Nat):Int) - 1=(j:Int):=by omega
 rw[e1,tN7];refine⟨by simp only[inR];omega,⟨by omega,by omega⟩,⟨by omega,rfl⟩,wag (λh2=>⟨by simp only[inR];omega,j,⟨rfl,was _⟩,⟨by omega,?_⟩,by omega⟩) (λh2=>fin ?_)⟩
 ·rw[hz,lowI,decide_eq_true h2];rfl
 ·rw[lowI,decide_eq_false h2];rfl
theorem rlow_ok(hP:C.P=Tryz.prog):wae C 136 wl9:=by
 rintro args objs U Os vc h hvc;unfold wl9 at h;split at h<;>cases h;rename_i n t m f fr;obtain⟨rfl,rfl,rfl,hn,hf⟩:=hvc;refine wae.wpL (prg hP) [] [(2,won (uOf f) n)] 0 .nil (hP ▸ Tryz.func136) rfl rfl rfl [(wah Tryz.f136 2,won (uOf f) n)] (by kernel_rfl) ⟨wyq hP _ n,trivial⟩ ?_;rw[nf_rlow];have hrow:wac [(0,AObj.row 124 1 n (uRow (uOf f)) false)] [(0,.row 124 1 n f false)]:=⟨⟨rfl,rfl,rfl,rfl,rfl,λi hi=>(hf i hi).symm⟩,trivial⟩;exact⟨⟨rfl,⟨rfl,rfl,rfl,rfl,rfl,hf⟩,trivial⟩,hn,λ_ _=>rfl,_,hrow,rfl,rfl⟩
theorem wyg(hP:C.P=Tryz.prog):wae C 115 we7:=by
 rintro args objs U Os vc h hvc;unfold we7 at h;split at h<;>cases h;rename_i n t m f fr;obtain⟨rfl,rfl,rfl,hn,hf⟩:=hvc;refine wat.frzO 1 ?_;refine wa9.wpL (prg hP) [(136,.det wl9)] [] 0 (.cons (rlow_ok hP) .nil) (hP ▸ Tryz.func115) rfl rfl rfl [] (wcq _) trivial ?_;rw[w0i,tN7,Nat.zero_add];have hle:=wqg (uOf f) n;have hnr:∀i,i<n->nrefL (f i)=true:=λi hi=>by rw[hf i hi];rfl
 have hap:∀i,i<lowI (uOf f) n->apF 0 (wap 1 (List.flatten (List.replicate 0 [.int .u32 0]))) f i=uRow (uOf f) i:=λi hi=>by
  unfold apF;rw[if_neg (nZ7 i),Nat.sub_zero];exact hf i (by omega)
 refine⟨⟨by omega,rfl,by omega⟩,hnr,⟨rfl,rfl,rfl,hn,hf⟩,hnr,⟨by omega,by omega⟩,⟨⟨hle,rfl⟩,lR7 _,rfl,rfl,rfl,by omega,by omega⟩,hnr,λi hi=>by rw[hap i hi];rfl,[(0,.row 124 1 n f false),(1,.row 124 1 (lowI (uOf f) n) (uRow (uOf f)) false)],⟨rQ7,⟨rfl,rfl,rfl,rfl,rfl,hap⟩,trivial⟩,λ_ _=>rfl,?_⟩;generalize lowI (uOf f) n=c at *;have hb:Nat.ble c c=true:=Nat.ble_eq_true_of_le (lR7 _)
 constructor
 ·simp[frzC,frzA,frz,hb]
 ·rfl
theorem wyv(hP:C.P=Tryz.prog):wae C 89 wfb:=by
 rintro args objs U Os vc h hvc;unfold wfb at h;split at h<;>cases h;rename_i v;obtain⟨h0,h1⟩:=hvc;refine wae.wp0 (prg hP) [(115,.det we7)] 0 (.cons (wyg hP) .nil) (hP ▸ Tryz.func89) rfl rfl rfl ?_;rw[w0s,and_lim h0 h1];have w1:IntKind.wrap .u32 (v % 4294967296)=v % 4294967296:=by
  show (v % 4294967296) % 4294967296=v % 4294967296;omega
 have w2:IntKind.wrap .u32 (v / (2:Int) ^ Int.toNat (32:Int))=v / 4294967296:=by
  show (v / 4294967296) % 4294967296=v / 4294967296;omega
 rw[w1,w2];have e:uOf (wap 1 (.int .u32 (v % 4294967296):: .int .u32 (v / 4294967296)::List.append [] (List.flatten (List.replicate 0 [.int .u32 0]))))=lmF v:=by
  funext i
  match i with
  |0=>rfl
  |1=>rfl
  |i+2=>simp[uOf,wap,lmF,wd9,wdm]
 have two:∀ {p:Nat->Prop},p 0->p 1->∀i,i<2->p i:=λh0 h1 i hi=>by
  match i,hi with
  |0,_=>exact h0
  |1,_=>exact h1
 refine⟨trivial,trivial,⟨by decide,by decide⟩,trivial,⟨by omega,rfl,by omega⟩,two rfl rfl,⟨rfl,rfl,rfl,by omega,two rfl rfl⟩,two rfl rfl,?_,rfl⟩;show AV.view 1 (lowI (uOf _) 2) (uRow (uOf _))=_;rw[e];rfl
theorem ww7(hP:C.P=Tryz.prog):wae C 54 we4:=by
 rintro args objs U Os vc h hvc;unfold we4 at h;split at h<;>cases h;rename_i v;obtain⟨h0,h1⟩:=hvc;refine wae.wp0 (prg hP) [(89,.det wfb)] 0 (.cons (wyv hP) .nil) (hP ▸ Tryz.func54) rfl rfl rfl ?_;rw[wzq];have w:IntKind.wrap .u64 v=v:=by
  show v % 18446744073709551616=v;omega
 rw[w];exact wag (λh=>absurd h (by omega)) (λ_=>⟨trivial,⟨h0,by omega⟩,rfl,rfl⟩)
theorem wyw(hP:C.P=Tryz.prog):wae C 22 wfc:=by
 rintro args objs U Os vc h hvc;unfold wfc at h;split at h<;>cases h;rename_i v;obtain⟨h0,h1⟩:=hvc;refine wae.wp0 (prg hP) [(54,.det we4)] 0 (.cons (ww7 hP) .nil) (hP ▸ Tryz.func22) rfl rfl rfl ?_;rw[w0t,decide_eq_false (show ¬ v<0 by omega)];exact⟨⟨h0,h1⟩,⟨trivial,trivial⟩,rfl,rfl⟩
theorem wx0(hP:C.P=Tryz.prog)(n:Nat)(u w:Nat->Int):waf C 0 26 (wah Tryz.f53 4) (wof n u w):=by
 have _:C.Loose:=inferInstance;rintro st Q ⟨h0,hn,hQ⟩;have hR:=wbo hQ;refine waf.mk (prg hP) [] 0 .nil [0,1,12,13] [] [4] (wly n u w) (λk=>k<=n/\fstB (λi=> !decide (u i=w i)) k=k) (λk=>n - k) 0 ⟨zL7 _,rfl⟩ h0 (λk hk=>?_);obtain⟨hkn,hok⟩:=hk;rw[w0b,tN7];refine wag (λh1=>⟨⟨by omega,by omega,rfl⟩,⟨by omega,by omega,rfl⟩,waj (λh2=>hR.2 ?_) (λh2=>⟨by simp only[inR];omega,k+1,rfl,⟨by omega,wdo hok h2⟩,by omega⟩)⟩) (λh1=>hR.1 ?_)
 ·rw[wee hok h2 n (by omega),decide_eq_false];omega
 ·rw[show k=n by omega] at hok;rw[hok,decide_eq_true rfl]
theorem wxz(hP:C.P=Tryz.prog):waf C 0 26 (wah Tryz.f53 4) woe:=by
 have _:C.Loose:=inferInstance;rintro st Q ⟨h0,hQ⟩;refine waf.mk (prg hP) [] 0 .nil [0,1,12,13] [] [4] wlx (λk=>k=0) (λ_=>0) 0 rfl h0 (λk hk=>?_);subst hk;rw[w0a];exact hQ
theorem wyb(hP:C.P=Tryz.prog):wae C 53 wl3:=by
 rintro args objs U Os vc h hvc;unfold wl3 at h;split at h<;>simp only[sI7,pI7,reduceCtorEq] at h
 ·rename_i n f m g;obtain⟨rfl,rfl,rfl⟩:=h;obtain⟨hn,hm,hf,hg⟩:=hvc;generalize uOf f=u at *;generalize uOf g=w at *;subst hf;subst hg;refine wae.wpL (prg hP) [] [(4,wof n u w)] 0 .nil (hP ▸ Tryz.func53) rfl rfl rfl [(wah Tryz.f53 4,wof n u w)] (by kernel_rfl) ⟨wx0 hP n u w,trivial⟩ ?_;rw[nf_sm1];unfold wje;refine wax (λh=>?_) (λh=>?_)
  ·rw[decide_eq_false (show ¬ n=m by omega)];exact⟨rfl,rfl⟩
  ·have:n=m:=by omega
   subst this;rw[decide_eq_true rfl,Bool.true_and];refine⟨rfl,hn,waj (λh=>?_) (λh=>?_)⟩
   ·rw[h];exact⟨rfl,rfl⟩
   ·rw[h];exact⟨rfl,rfl⟩
 ·obtain⟨rfl,rfl,rfl⟩:=h;refine wae.wpL (prg hP) [] [(4,woe)] 0 .nil (hP ▸ Tryz.func53) rfl rfl rfl [(wah Tryz.f53 4,woe)] (by kernel_rfl) ⟨wxz hP,trivial⟩ ?_;rw[nf_sm1n];exact⟨rfl,rfl,rfl⟩
theorem wya(hP:C.P=Tryz.prog):wae C 21 wl2:=by
 rintro args objs U Os vc h hvc;unfold wl2 at h;split at h<;>cases h;rename_i a n f b m g;obtain⟨hn,hm,hf,hg⟩:=hvc;generalize uOf f=u at *;generalize uOf g=w at *;subst hf;subst hg;refine wae.wp0 (prg hP) [(53,.det wl3)] 0 (.cons (wyb hP) .nil) (hP ▸ Tryz.func21) rfl rfl rfl ?_;have hu:∀u:Nat->Int,uOf (uRow u)=u:=λ_=>rfl;rw[nf_sm2,hu,hu];refine waj (λh=>⟨⟨hn,hm,rfl,rfl⟩,waj (λh2=>⟨trivial,?_,rfl⟩) (λh2=>⟨?_,rfl⟩)⟩) (λh=>⟨?_,rfl⟩)
 ·rw[h,h2];rfl
 ·rw[h,h2];rfl
 ·rw[h];rfl
theorem beV_ok(hP:C.P=Tryz.prog):wae C 85 wnt:=by
 have _:C.Loose:=inferInstance;rintro args objs U Os vc h hvc;unfold wnt at h;split at h<;>simp only[sI7,pI7,reduceCtorEq] at h;rename_i o p per d st pr rep o' p' per' d' st' pr' rep';obtain⟨rfl,rfl,rfl⟩:=h;have hnf:=λQ=>nf_beV ⟨o,p,per,d,st,pr,rep⟩ ⟨o',p',per',d',st',pr',rep'⟩ Q;dsimp only at hnf;refine wae.wp0 (prg hP) [] 0 .nil (hP ▸ Tryz.func85) rfl rfl rfl ?_;rw[hnf,ordS_if];refine wax (λh1=>?_) (λh1=>wax (λh2=>?_) (λh2=>?_))
 ·rw[if_neg (λq=>h1 (wdd.1 q)),wwi];exact⟨rfl,rfl⟩
 ·rw[if_pos (wdd.2 h1),if_neg (λq=>h2 (wdd.1 q)),wwi];exact⟨rfl,rfl⟩
 ·rw[if_pos (wdd.2 h1),if_pos (wdd.2 h2),ciS_dec];exact⟨rfl,rfl⟩
theorem ends_ok(hP:C.P=Tryz.prog):wae C 73 wnh:=by
 have _:C.Loose:=inferInstance;rintro args objs U Os vc h hvc;unfold wnh at h;split at h<;>cases h;rename_i o p per d st pr rep;have hnf:=λQ=>nf_ends ⟨o,p,per,d,st,pr,rep⟩ Q;dsimp only at hnf;refine wae.wp0 (prg hP) [] 0 .nil (hP ▸ Tryz.func73) rfl rfl rfl ?_;rw[hnf];refine waj (λh1=>?_) (λh1=>?_)
 ·rw[h1];exact⟨rfl,rfl⟩
 ·rw[h1];exact⟨rfl,rfl⟩
theorem w3o(hP:C.P=Tryz.prog)(g:Nat->VT)(n:Nat):waf C 0 17 (wah Tryz.f46 2) (L_la g n):=by
 rintro st Q ⟨h0,hn,hQ⟩;have hR:=wbo hQ;refine waf.mk (prg hP) [(73,.det wnh)] 0 (.cons (ends_ok hP) .nil) [2,6,7,8] [2] [2,3] (wmv g n) (λk=>k<=n/\fstB (λi=>finB (g i)) k=k) (λk=>n - k) 0 ⟨zL7 _,rfl⟩ h0 (λk hk=>?_);obtain⟨hkn,hok⟩:=hk;rw[w1l,tN7];refine wag (λh1=>⟨⟨by omega,by omega,rfl⟩,trivial,waj (λh2=>?_) (λh2=>⟨by simp only[inR];omega,k+1,rfl,⟨by omega,wdo hok h2⟩,by omega⟩)⟩) (λh1=>hR.2 ?_)
 ·have e:=wee hok h2 n (by omega);have:=hR.1 (by rw[e,decide_eq_true];omega);rw[e] at this;exact this
 ·rw[show k=n by omega] at hok;rw[hok,decide_eq_false];omega
theorem last_ok(hP:C.P=Tryz.prog):wae C 46 wmu:=by
 rintro args objs U Os vc h hvc;unfold wmu at h;split at h<;>cases h;rename_i n f;obtain⟨hn,hf⟩:=hvc;generalize vtOf f=g at *;subst hf;refine wae.wpL (prg hP) [] [(2,L_la g n)] 0 .nil (hP ▸ Tryz.func46) rfl rfl rfl [(wah Tryz.f46 2,L_la g n)] (by kernel_rfl) ⟨w3o hP g n,trivial⟩ ?_;rw[nf_last];refine⟨rfl,hn,waj (λh=>⟨⟨trivial,trivial⟩,?_⟩) (λh=>⟨⟨trivial,trivial⟩,?_⟩)⟩
 ·unfold lasX;rw[h];exact⟨rfl,rfl⟩
 ·unfold lasX;rw[h];exact⟨rfl,rfl⟩
end Go.Eng
namespace Go.Eng
def S_ra(g:Nat->MG)(n:Nat)(o p:List UInt8)(per:Int)(C:List MG)(k:Nat):St:=⟨[(0,.view 15 n (waa g)),(1,.str o),(2,.str p),(3,.q per),(8,.ptr 0 0),(10,.view 15 C.length (waa (atM C))),(11,.bool (agF C k)),(32,.view 15 C.length (waa (atM C))),(33,.q C.length),(34,.q k)],
 [(0,.cells [.str [],.str [],.q 0,.q 0,.q 0,.q 0,.str []] 43)],1,[]⟩
def L_ra(g:Nat->MG)(n:Nat)(o p:List UInt8)(per:Int)(C:List MG):wan:=λst Q=>canonIs te 0 [0,1,2,3,8,10,11,32,33,34] st (S_ra g n o p per C 0)/\(0<C.length/\C.length<=1000000)/\
 Q (.exit 0) ⟨[(0,.view 15 n (waa g)),(1,.str o),(2,.str p),(3,.q per),(8,.ptr 0 0),(10,.view 15 C.length (waa (atM C))),(11,.bool (agF C C.length))],
  [(0,.cells [.str [],.str [],.q 0,.q 0,.q 0,.q 0,.str []] 43)],1,[]⟩
structure RbI where
 k:Nat
 x:MG
 y:MG
def S_rb(o p:List UInt8)(per:Int)(C R:List MG)(i:RbI):St:=⟨[(1,.str o),(2,.str p),(3,.q per),(8,.ptr 0 0),(10,.view 15 C.length (waa (atM C))),(16,.ptr 1 0),(17,.ptr 2 0),(72,.view 15 R.length (waa (atM R))),(73,.q R.length),(74,.q i.k)],
 [(0,.cells [.str [],.str [],.q 0,.q 0,.q 0,.q 0,.str []] 43),(1,.cells [.str i.x.dev,.q i.x.seq,.q i.x.kind,.str i.x.v.o,.str i.x.v.p,.q i.x.v.per,.q i.x.v.day,.q i.x.v.st,.q i.x.v.pr,.str i.x.v.rep,.str i.x.d.o,.str i.x.d.p,.q i.x.d.per,.str i.x.d.dev,.q i.x.d.num] 47),(2,.cells [.str i.y.dev,.q i.y.seq,.q i.y.kind,.str i.y.v.o,.str i.y.v.p,.q i.y.v.per,.q i.y.v.day,.q i.y.v.st,.q i.y.v.pr,.str i.y.v.rep,.str i.y.d.o,.str i.y.d.p,.q i.y.d.per,.str i.y.d.dev,.q i.y.d.num] 47)],3,[]⟩
def L_rb(o p:List UInt8)(per:Int)(C R:List MG):wan:=λst Q=>canonIs te 0 [1,2,3,8,10,16,17,72,73,74] st (S_rb o p per C R ⟨0,wcv,wcv⟩)/\R.length<=1000000/\C.length<=1000000/\
 ∀x y:MG,(x,y)=bfF o p per C (atM R) R.length->Q (.exit 2) ⟨[(8,.ptr 0 0),(16,.ptr 1 0),(17,.ptr 2 0)],
 [(0,.cells [.str [],.str [],.q 0,.q 0,.q 0,.q 0,.str []] 43),(1,.cells [.str x.dev,.q x.seq,.q x.kind,.str x.v.o,.str x.v.p,.q x.v.per,.q x.v.day,.q x.v.st,.q x.v.pr,.str x.v.rep,.str x.d.o,.str x.d.p,.q x.d.per,.str x.d.dev,.q x.d.num] 47),(2,.cells [.str y.dev,.q y.seq,.q y.kind,.str y.v.o,.str y.v.p,.q y.v.per,.q y.v.day,.q y.v.st,.q y.v.pr,.str y.v.rep,.str y.d.o,.str y.d.p,.q y.d.per,.str y.d.dev,.q y.d.num] 47)],3,[]⟩
def wiy(o p:List UInt8)(per:Int)(C R:List MG)(k:Nat)(m:MG)(i:RbI):St:=⟨[(1,.str o),(2,.str p),(3,.q per),(8,.ptr 0 0),(10,.view 15 C.length (waa (atM C))),(16,.ptr 1 0),(17,.ptr 2 0),(19,.ptr 3 0),(20,.ptr 4 0),(72,.view 15 R.length (waa (atM R))),(73,.q R.length),(74,.q k),(101,.view 15 C.length (waa (atM C))),(102,.q C.length),(103,.q i.k)],
 [(0,.cells [.str [],.str [],.q 0,.q 0,.q 0,.q 0,.str []] 43),(1,.cells [.str i.x.dev,.q i.x.seq,.q i.x.kind,.str i.x.v.o,.str i.x.v.p,.q i.x.v.per,.q i.x.v.day,.q i.x.v.st,.q i.x.v.pr,.str i.x.v.rep,.str i.x.d.o,.str i.x.d.p,.q i.x.d.per,.str i.x.d.dev,.q i.x.d.num] 47),(2,.cells [.str i.y.dev,.q i.y.seq,.q i.y.kind,.str i.y.v.o,.str i.y.v.p,.q i.y.v.per,.q i.y.v.day,.q i.y.v.st,.q i.y.v.pr,.str i.y.v.rep,.str i.y.d.o,.str i.y.d.p,.q i.y.d.per,.str i.y.d.dev,.q i.y.d.num] 47),(3,.cells [.str m.dev,.q m.seq,.q m.kind,.str m.v.o,.str m.v.p,.q m.v.per,.q m.v.day,.q m.v.st,.q m.v.pr,.str m.v.rep,.str m.d.o,.str m.d.p,.q m.d.per,.str m.d.dev,.q m.d.num] 47),(4,.cells [.str m.d.o,.str m.d.p,.q m.d.per,.str m.d.dev,.q m.d.num] 45)],5,[]⟩
def woo(o p:List UInt8)(per:Int)(C R:List MG)(k:Nat)(m:MG)(x y:MG):wan:=λst Q=>canonIs te 0 [1,2,3,8,10,16,17,19,20,72,73,74,101,102,103] st (wiy o p per C R k m ⟨0,x,y⟩)/\C.length<=1000000/\
 ∀x' y':MG,(x',y')=inF C m (x,y) C.length->Q (.exit 4) (S_rb o p per C R ⟨k,x',y'⟩)
def wmb(o p:List UInt8)(per:Int)(C R:List MG)(k:Nat)(m x y z:MG)(i:Nat):St:=⟨[(1,.str o),(2,.str p),(3,.q per),(8,.ptr 0 0),(10,.view 15 C.length (waa (atM C))),(16,.ptr 1 0),(17,.ptr 2 0),(19,.ptr 3 0),(20,.ptr 4 0),(22,.ptr 5 0),(72,.view 15 R.length (waa (atM R))),(73,.q R.length),(74,.q k),(101,.view 15 C.length (waa (atM C))),(102,.q C.length),(103,.q i)],
 [(0,.cells [.str [],.str [],.q 0,.q 0,.q 0,.q 0,.str []] 43),(1,.cells [.str x.dev,.q x.seq,.q x.kind,.str x.v.o,.str x.v.p,.q x.v.per,.q x.v.day,.q x.v.st,.q x.v.pr,.str x.v.rep,.str x.d.o,.str x.d.p,.q x.d.per,.str x.d.dev,.q x.d.num] 47),(2,.cells [.str y.dev,.q y.seq,.q y.kind,.str y.v.o,.str y.v.p,.q y.v.per,.q y.v.day,.q y.v.st,.q y.v.pr,.str y.v.rep,.str y.d.o,.str y.d.p,.q y.d.per,.str y.d.dev,.q y.d.num] 47),(3,.cells [.str m.dev,.q m.seq,.q m.kind,.str m.v.o,.str m.v.p,.q m.v.per,.q m.v.day,.q m.v.st,.q m.v.pr,.str m.v.rep,.str m.d.o,.str m.d.p,.q m.d.per,.str m.d.dev,.q m.d.num] 47),(4,.cells [.str m.d.o,.str m.d.p,.q m.d.per,.str m.d.dev,.q m.d.num] 45),(5,.cells [.str z.dev,.q z.seq,.q z.kind,.str z.v.o,.str z.v.p,.q z.v.per,.q z.v.day,.q z.v.st,.q z.v.pr,.str z.v.rep,.str z.d.o,.str z.d.p,.q z.d.per,.str z.d.dev,.q z.d.num] 47)],6,[]⟩
def wop(o p:List UInt8)(per:Int)(C R:List MG)(k:Nat)(m x y z:MG)(i:Nat):wan:=λst Q=>canonIs te 0 [1,2,3,8,10,16,17,19,20,22,72,73,74,101,102,103] st (wmb o p per C R k m x y z i)/\Q .normal (wiy o p per C R k m ⟨i,m,z⟩)
def S_r23(o p:List UInt8)(per:Int)(C R:List MG)(k:Nat)(m x y z:MG)(i:Nat)(b:Bool):St:=⟨[(1,.str o),(2,.str p),(3,.q per),(8,.ptr 0 0),(10,.view 15 C.length (waa (atM C))),(16,.ptr 1 0),(17,.ptr 2 0),(19,.ptr 3 0),(20,.ptr 4 0),(22,.ptr 5 0),(72,.view 15 R.length (waa (atM R))),(73,.q R.length),(74,.q k),(101,.view 15 C.length (waa (atM C))),(102,.q C.length),(103,.q i),(139,.bool b)],
 [(0,.cells [.str [],.str [],.q 0,.q 0,.q 0,.q 0,.str []] 43),(1,.cells [.str x.dev,.q x.seq,.q x.kind,.str x.v.o,.str x.v.p,.q x.v.per,.q x.v.day,.q x.v.st,.q x.v.pr,.str x.v.rep,.str x.d.o,.str x.d.p,.q x.d.per,.str x.d.dev,.q x.d.num] 47),(2,.cells [.str y.dev,.q y.seq,.q y.kind,.str y.v.o,.str y.v.p,.q y.v.per,.q y.v.day,.q y.v.st,.q y.v.pr,.str y.v.rep,.str y.d.o,.str y.d.p,.q y.d.per,.str y.d.dev,.q y.d.num] 47),(3,.cells [.str m.dev,.q m.seq,.q m.kind,.str m.v.o,.str m.v.p,.q m.v.per,.q m.v.day,.q m.v.st,.q m.v.pr,.str m.v.rep,.str m.d.o,.str m.d.p,.q m.d.per,.str m.d.dev,.q m.d.num] 47),(4,.cells [.str m.d.o,.str m.d.p,.q m.d.per,.str m.d.dev,.q m.d.num] 45),(5,.cells [.str z.dev,.q z.seq,.q z.kind,.str z.v.o,.str z.v.p,.q z.v.per,.q z.v.day,.q z.v.st,.q z.v.pr,.str z.v.rep,.str z.d.o,.str z.d.p,.q z.d.per,.str z.d.dev,.q z.d.num] 47)],6,[]⟩
def woq(o p:List UInt8)(per:Int)(C R:List MG)(k:Nat)(m x y z:MG)(i:Nat):wan:=λst Q=>canonIs te 0 [1,2,3,8,10,16,17,19,20,22,72,73,74,101,102,103] st (wmb o p per C R k m x y z i)/\Q .normal (S_r23 o p per C R k m x y z i (namF m.d z && betB x m))
end Go.Eng
namespace Go.Eng
open Go.Proofs Go.RowKit
set_option maxRecDepth 20000
theorem w1c(s:List UInt8)(R:oR7):wpFn te [] [(2,wos s)] 0 Tryz.f131 [.str s] [] R=(letI z0:=(s.length:Int);some (St.mk [(0,.str s),(6,.q z0),(7,.q 0)] [] 0 [])=some (St.mk [(0,.str s),(6,.q z0),(7,.q (↑0:Int))] [] 0 [])/\((∀(k:Nat),k<s.length->OKat s k)->wab (decide ((1:Int)<=z0)) (R (.bool (decide (z0<=24))) []) (R (.bool false) []))/\∀(k:Nat),k<s.length->¬OKat s k->R (.bool false) []):=by kernel_rfl
theorem w1b(s:List UInt8)(k:Nat)(P:Nat->Prop)(R:eR7):waq ⟨te,[],[],0,59,0⟩ (wav Tryz.f131 2) [0,6,7] [0] [2] (wmk s) P R (wmk s k)=(letI z6:=R .ret (St.mk [(2,.bool false)] [] 0 []);letI z5:=(s.length:Int);letI z3:=((0:Int)<=(k:Int)/\(k:Int)<z5:Prop);letI z2:=(↑(UInt8.toNat (List.getD s (k:Int).toNat (0:UInt8))):Int);letI z1:=(inR .i64 ((k:Int)+1)/\∃(i':Nat),some (St.mk [(0,.str s),(6,.q z5),(7,.q ((k:Int)+1))] [] 0 [])=some (St.mk [(0,.str s),(6,.q z5),(7,.q (i':Int))] [] 0 [])/\P i');letI z0:=(wab (decide ((k:Int)=0)) z6 (z3/\wab (!decide (z2=45)) (z3/\wab (!decide (z2=46)) z6 z1) z1));letI z4:=(z3/\wab (decide ((48:Int)<=z2)) (z3/\wab (!decide (z2<=57)) z0 z1) z0);wab (decide ((k:Int)<z5)) (z3/\wab (decide ((97:Int)<=z2)) (z3/\wab (decide (z2<=122)) z1 z4) z4) (R (.exit 0) (St.mk [(0,.str s)] [] 0 []))):=by kernel_rfl
theorem nf_cdR(s:List UInt8)(R:oR7):wpFn te [] [(5,wo5 s)] 0 Tryz.f57 [.str s] [] R=(letI z2:=R (.tuple [.q 0,.bool false]) [];letI z1:=(s.length:Int);letI z0:=(some (St.mk [(0,.str s),(4,.q 0),(16,.q z1),(17,.q 0)] [] 0 [])=some (St.mk [(0,.str s),(4,.q (wa2 s 0)),(16,.q z1),(17,.q (↑0:Int))] [] 0 [])/\s.length<=12/\wab (List.all s wbf) ((10:Int)≠(0:Int)/\inR .i64 ((10:Int) - Int.tmod (wa2 s s.length) (10:Int))/\(10:Int)≠(0:Int)/\R (.tuple [.q (Int.tmod ((10:Int) - Int.tmod (wa2 s s.length) (10:Int)) (10:Int)),.bool true]) []) z2);wab (!decide (z1=7)) (wab (!decide (z1=12)) z2 z0) z0):=by kernel_rfl
theorem w2i(s:List UInt8)(k:Nat)(P:Nat->Prop)(R:eR7):waq ⟨te,[],[],0,50,0⟩ (wav Tryz.f57 5) [0,4,16,17] [4] [2,3] (wno s) P R (wno s k)=(letI z5:=R .ret (St.mk [(2,.q 0),(3,.bool false)] [] 0 []);letI z1:=(s.length:Int);letI z2:=((0:Int)<=(k:Int)/\(k:Int)<z1:Prop);letI z0:=(↑(UInt8.toNat (List.getD s (k:Int).toNat (0:UInt8))):Int);letI z3:=(z0 - (48:Int));letI z4:=(z3 % (256:Int));wab (decide ((k:Int)<z1)) (z2/\wab (decide (z0<48)) z5 (z2/\wab (decide ((57:Int)<z0)) z5 (inR .i64 (z1 - (k:Int))/\(2:Int)≠(0:Int)/\wab (decide (Int.tmod (z1 - (k:Int)) (2:Int)=1)) (z2/\inR .i64 z4/\inR .i64 ((3:Int) * z4)/\inR .i64 (wa2 s k+3 * z4)/\inR .i64 ((k:Int)+1)/\∃(i':Nat),some (St.mk [(0,.str s),(4,.q (wa2 s k+3 * z4)),(16,.q z1),(17,.q ((k:Int)+1))] [] 0 [])=some (St.mk [(0,.str s),(4,.q (wa2 s i')),(16,.q z1),(17,.q (i':Int))] [] 0 [])/\P i') (z2/\inR .i64 z4/\inR .i64 ((1:Int) * z4)/\inR .i64 (wa2 s k+1 * z4)/\inR .i64 ((k:Int)+1)/\∃(i':Nat),some (St.mk [(0,.str s),(4,.q (wa2 s k+1 * z4)),(16,.q z1),(17,.q ((k:Int)+1))] [] 0 [])=some (St.mk [(0,.str s),(4,.q (wa2 s i')),(16,.q z1),(17,.q (i':Int))] [] 0 [])/\P i')))) (R (.exit 0) (St.mk [(4,.q (wa2 s k))] [] 0 []))):=by kernel_rfl
theorem wzw(s:List UInt8)(R:oR7):wpFn te [(57,.det wd3)] [] 0 Tryz.f152 [.str s] [] R=(letI z1:=(s.length:Int);letI z3:=(z1 - (1:Int));letI z2:=(cdF (List.take z3.toNat s));letI z0:=(inR .i64 z3/\((0:Int)<=z1 - (1:Int)/\z1 - (1:Int)<=z1)/\True/\wab z2.2 (inR .i64 z3/\((0:Int)<=z1 - (1:Int)/\z1 - (1:Int)<z1)/\inR .i64 ((48:Int)+z2.1)/\inR .u8 ((48:Int)+z2.1)/\R (.bool (decide ((↑(UInt8.toNat (List.getD s z3.toNat (0:UInt8))):Int)=48+z2.1))) []) (R (.bool false) []));wab (!decide (z1=8)) (wab (!decide (z1=13)) (R (.bool false) []) z0) z0):=by kernel_rfl
variable {C:Ctx} [C.Loose]
theorem w2u(hP:C.P=Tryz.prog)(s:List UInt8)(hm:s.length<=9223372036854775807):waf C 0 59 (wah Tryz.f131 2) (wos s):=by
 have _:C.Loose:=inferInstance;rintro st Q ⟨h0,hQ1,hQ2⟩;refine waf.mk (prg hP) [] 0 .nil [0,6,7] [0] [2] (wmk s) (λk=>k<=s.length/\∀j,j<k->OKat s j) (λk=>s.length - k) 0 ⟨zL7 _,λj h=>by omega⟩ h0 λk ⟨hk,hall⟩=>?_;rw[w1b];refine wag (λh=>?_) (λh=>?_)
 ·have hlt:k<s.length:=by omega
  have hret:¬ OKat s k->Q .ret ⟨[(2,.bool false)],[],0,[]⟩:=hQ2 k hlt;have hgo:OKat s k->∃i':Nat,some (St.mk [(0,.str s),(6,.q (s.length:Int)),(7,.q ((k:Int)+1))] [] 0 [])=some (St.mk [(0,.str s),(6,.q (s.length:Int)),(7,.q (i':Int))] [] 0 [])/\(i'<=s.length/\∀j,j<i'->OKat s j)/\s.length - i'<s.length - k:=λhok=>
   ⟨k+1,rfl,⟨by omega,λj hj=>by
    rcases Nat.lt_succ_iff_lt_or_eq.1 hj with hj | rfl
    ·exact hall j hj
    ·exact hok⟩,by omega⟩
  unfold OKat at hret hgo;simp only[tN7,inR]
  repeat' (first | (refine wag (λ_=>?_) (λ_=>?_)) | (refine wax (λ_=>?_) (λ_=>?_)) | (refine And.intro (by omega) ?_) | fail)
  all_goals (first | exact hret (by omega) | exact hgo (by omega))
 ·exact hQ1 λj hj=>hall j (by omega)
theorem wqa(hP:C.P=Tryz.prog):wae C 131 we9:=by
 rintro args objs U Os vc h hvc;unfold we9 at h;split at h<;>cases h;rename_i s;refine wae.wpL (prg hP) [] [(2,wos s)] 0 .nil (hP ▸ Tryz.func131) rfl rfl rfl [(wah Tryz.f131 2,wos s)] (by kernel_rfl) ⟨w2u hP s hvc,trivial⟩ ?_;rw[w1c];refine⟨rfl,λhall=>wag (λh1=>⟨congrArg AV.bool ?_,rfl⟩) (λh1=>⟨congrArg AV.bool ?_,rfl⟩),λk hk hno=>⟨congrArg AV.bool ?_,rfl⟩⟩
 ·by_cases h2:s.length<=24
  ·rw[(wjy s).2 ⟨⟨by omega,h2⟩,hall⟩];exact decide_eq_true (by omega)
  ·rw[decide_eq_false (by omega)]
   cases hn:wa7 s with
   |false=>rfl
   |true=>exact absurd ((wjy s).1 hn).1.2 h2
 ·cases hn:wa7 s with
  |false=>rfl
  |true=>exact absurd ((wjy s).1 hn).1.1 (by omega)
 ·cases hn:wa7 s with
  |false=>rfl
  |true=>exact absurd (((wjy s).1 hn).2 k hk) hno
theorem w5p(hP:C.P=Tryz.prog)(s:List UInt8):waf C 0 50 (wah Tryz.f57 5) (wo5 s):=by
 have _:C.Loose:=inferInstance;rintro st Q ⟨h0,hlen,hQ⟩;have hQ:=wbo hQ;refine waf.mk (prg hP) [] 0 .nil [0,4,16,17] [4] [2,3] (wno s) (λk=>k<=s.length/\∀j,j<k->48<=(s.getD j 0).toNat/\(s.getD j 0).toNat<=57) (λk=>s.length - k) 0 ⟨zL7 _,λj h=>by omega⟩ h0 λk ⟨hk,hall⟩=>?_;rw[w2i];have hb:=wwc k hk hall;refine wag (λh=>?_) (λh=>?_)
 ·have hlt:k<s.length:=by omega
  have hret:¬ (48<=(s.getD k 0).toNat/\(s.getD k 0).toNat<=57)->Q .ret ⟨[(2,.q 0),(3,.bool false)],[],0,[]⟩:=λhno=>hQ.2 (by
   cases ha:s.all wbf with
   |false=>rfl
   |true=>exact absurd (wki ha k hlt) hno)
  have e:Int.tmod (↑s.length - ↑k) 2=(↑s.length - ↑k) % 2:=Int.tmod_eq_emod_of_nonneg (by omega);have hs:wa2 s (k+1)=wa2 s k+(1+2 * ((↑s.length - ↑k) % 2)) * (↑(s.getD k 0).toNat - 48):=rfl;have hgo:(48<=(s.getD k 0).toNat/\(s.getD k 0).toNat<=57)->(k+1<=s.length/\∀j,j<k+1->48<=(s.getD j 0).toNat/\(s.getD j 0).toNat<=57)/\s.length - (k+1)<s.length - k:=λhok=>
   ⟨⟨by omega,λj hj=>by
    rcases Nat.lt_succ_iff_lt_or_eq.1 hj with hj | rfl
    ·exact hall j hj
    ·exact hok⟩,by omega⟩
  simp only[tN7,inR,e];refine⟨by omega,wag (λh1=>hret (by omega)) (λh1=>⟨by omega,wag (λh2=>hret (by omega)) (λh2=>⟨by omega,by omega,?_⟩)⟩)⟩;have hgo:=hgo (by omega);have e3:((s.getD k 0).toNat - 48:Int) % 256=(s.getD k 0).toNat - 48:=by omega
  rw[e3];refine wag (λh3=>?_) (λh3=>?_)
  ·rw[h3] at hs;exact⟨by omega,by omega,by omega,by omega,by omega,k+1,by rw[hs];rfl,hgo⟩
  ·have h3:(↑s.length - ↑k:Int) % 2=0:=by omega
   rw[h3] at hs;exact⟨by omega,by omega,by omega,by omega,by omega,k+1,by rw[hs];rfl,hgo⟩
 ·have hks:k=s.length:=by omega
  rw[hks];exact hQ.1 (w6i λj hj=>hall j (by omega))
theorem cdR_ok(hP:C.P=Tryz.prog):wae C 57 wd3:=by
 rintro args objs U Os vc h hvc;unfold wd3 at h;split at h<;>cases h;rename_i s;refine wae.wpL (prg hP) [] [(5,wo5 s)] 0 .nil (hP ▸ Tryz.func57) rfl rfl rfl [(wah Tryz.f57 5,wo5 s)] (by kernel_rfl) ⟨w5p hP s,trivial⟩ ?_;rw[nf_cdR]
 have main:(s.length=7∨s.length=12)->wab (s.all wbf) ((10:Int)≠0/\inR .i64 (10 - Int.tmod (wa2 s s.length) 10)/\(10:Int)≠0/\AV.tuple [.q (Int.tmod (10 - Int.tmod (wa2 s s.length) 10) 10),.bool true]= .tuple [.q (cdF s).1,.bool (cdF s).2]/\([]:List (Nat×AObj))=[])
   (AV.tuple [.q 0,.bool false]= .tuple [.q (cdF s).1,.bool (cdF s).2]/\([]:List (Nat×AObj))=[]):=by
  intro hl;have hd:wbk s 7 12=s.all wbf:=by
   unfold wbk
   rcases hl with h | h<;>simp[h]
  refine waj (λha=>?_) (λha=>?_)
  ·have hb:=wld ha s.length (lR7 _);have e:Int.tmod (wa2 s s.length) 10=wa2 s s.length % 10:=Int.tmod_eq_emod_of_nonneg (by omega);rw[e,Int.tmod_eq_emod_of_nonneg (by omega)];refine⟨by omega,by simp only[inR];omega,by omega,?_,rfl⟩;simp[cdF,hd,ha]
  ·refine⟨?_,rfl⟩;simp[cdF,hd,ha]
 refine wax (λh1=>wax (λh2=>⟨?_,rfl⟩) (λh2=>⟨rfl,by omega,main (by omega)⟩)) (λh1=>⟨rfl,by omega,main (by omega)⟩);have hd:wbk s 7 12=false:=by unfold wbk;rw[decide_eq_false h1,decide_eq_false h2];rfl
 simp[cdF,hd]
theorem wr6(hP:C.P=Tryz.prog):wae C 152 wco:=by
 rintro args objs U Os vc h hvc;unfold wco at h;split at h<;>cases h;rename_i s;refine wae.wp0 (prg hP) [(57,.det wd3)] 0 (.cons (cdR_ok hP) .nil) (hP ▸ Tryz.func152) rfl rfl rfl ?_;rw[wzw];have e1:∀h:s.length=8∨s.length=13,(↑s.length - 1:Int).toNat=s.length - 1:=by intro h;omega
 have hcd:=w5r (s.take (s.length - 1));have last:(s.length=8∨s.length=13)->(s.all wbf=((cdF (s.take (s.length - 1))).2 && wbf (s.getD (s.length - 1) 0))):=by
  intro hl;have h2:(cdF (s.take (s.length - 1))).2=(s.take (s.length - 1)).all wbf:=by
   have hd:wbk (s.take (s.length - 1)) 7 12=(s.take (s.length - 1)).all wbf:=by
    unfold wbk;have:(s.take (s.length - 1)).length=s.length - 1:=by simp
    rcases hl with h | h<;>simp[h]
   unfold cdF;rw[hd]
   cases (s.take (s.length - 1)).all wbf<;>rfl
  have hs:s=s.take (s.length - 1)++[s.getD (s.length - 1) 0]:=by
   have hlt:s.length - 1<s.length:=by omega
   have:=(List.take_append_drop (s.length - 1) s).symm;rw[List.drop_eq_getElem_cons hlt] at this;have e:s.getD (s.length - 1) 0=s[s.length - 1]:=by simp[List.getD,hlt]
   rw[e];have hd:List.drop (s.length - 1+1) s=[]:=List.drop_eq_nil_of_le (by omega);rw[hd] at this;exact this
  rw[h2]
  conv=>lhs;rw[hs]
  simp
 have hv:(s.length=8∨s.length=13)->wbb s=((cdF (s.take (s.length - 1))).2 && decide ((s.getD (s.length - 1) 0).toNat=48+(cdF (s.take (s.length - 1))).1)):=by
  intro hl;have hd:wbk s 8 13=s.all wbf:=by
   unfold wbk
   rcases hl with h | h<;>simp[h]
  unfold wbb;rw[hd,last hl]
  cases hc:(cdF (s.take (s.length - 1))).2 with
  |false=>rfl
  |true=>
   simp only[Bool.true_and]
   cases hi:wbf (s.getD (s.length - 1) 0) with
   |true=>
    refine decide_eq_decide.2 ?_;omega
   |false=>
    refine(decide_eq_false λhe=>?_).symm;simp only[wbf,Bool.and_eq_false_imp,decide_eq_true_eq,decide_eq_false_iff_not] at hi;omega
 have main:(s.length=8∨s.length=13)->wab (cdF (s.take (s.length - 1))).2 (inR .i64 (↑s.length - 1)/\(0<=(↑s.length - 1:Int)/\(↑s.length - 1:Int)<↑s.length)/\inR .i64 (48+(cdF (s.take (s.length - 1))).1)/\inR .u8 (48+(cdF (s.take (s.length - 1))).1)/\
   AV.bool (decide ((↑(s.getD (s.length - 1) 0).toNat:Int)=48+(cdF (s.take (s.length - 1))).1))= .bool (wbb s)/\([]:List (Nat×AObj))=[]) (AV.bool false= .bool (wbb s)/\([]:List (Nat×AObj))=[]):=by
  intro hl;rw[hv hl];refine waj (λhc=>?_) (λhc=>?_)
  ·simp only[inR,hc,Bool.true_and];exact⟨by omega,by omega,by omega,by omega,by simp⟩
  ·simp[hc]
 refine wax (λh1=>wax (λh2=>⟨?_,rfl⟩) (λh2=>?_)) (λh1=>?_)
 ·have hd:wbk s 8 13=false:=by unfold wbk;rw[decide_eq_false h1,decide_eq_false h2];rfl
  simp[wbb,hd]
 ·have hl:s.length=8∨s.length=13:=by omega
  rw[e1 hl];exact⟨by simp only[inR];omega,by omega,trivial,main hl⟩
 ·have hl:s.length=8∨s.length=13:=by omega
  rw[e1 hl];exact⟨by simp only[inR];omega,by omega,trivial,main hl⟩
end Go.Eng
