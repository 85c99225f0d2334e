/- The validation of products whose attributes are plain data. -/
import Derived.Test.YtmcdngcjakjnmaaGreatDoorJtr
namespace Go.Eng
open Go.Proofs Go.RowKit
set_option maxRecDepth 20000
theorem nf_min(n:Nat)(v:Nat->Int)(R:oR7):wpFn te [] [(5,L_mm n v (minV v)),(1002,λ_ _=>False)] 0 Tryz.f184 [.own 0 n] [.row 3 1 n (λi=>[.q (v i)]) false] R=(letI z0:=([(0,.row 3 1 n (λ(i:Nat)=>[.q (v i)]) false)]:oL7);wab (decide ((n:Int)<1)) False (((0:Int)<=0/\(0:Int)<(n:Int))/\(0<n/\1=1)/\(TEq [(0,.own 0 n),(3,.q (v 0)),(4,.q 1)] [(0,.own 0 n),(3,.q (minV v 0)),(4,.q ((↑0:Int)+1))]/\wac z0 z0)/\1<=n/\n<=4611686018427387904/\(∀(i:Nat),i<n->true=true)/\∃(O':oL7),wac z0 O'/\R (.q (minV v (n - 1))) O')):=by kernel_rfl
theorem w0g(n:Nat)(v:Nat->Int)(k:Nat)(P:Nat->Prop)(R:eR7):wat ⟨te,[],[],1,25,0⟩ (wau Tryz.f184 5) [0,3,4] [3] [] (wf3 n v (minV v)) P R (wf3 n v (minV v) k)=(letI z0:=([(0,.row 3 1 n (λ(i:Nat)=>[.q (v i)]) false)]:oL7);wab (decide ((k:Int)+1<(n:Int))) (((0:Int)<=(k:Int)+1/\(k:Int)+1<(n:Int))/\(((k:Int)+1).toNat<n/\1=1)/\inR .i64 ((k:Int)+1+1)/\∃(i':Nat),(TEq [(0,.own 0 n),(3,.q (min (minV v k) (v ((k:Int)+1).toNat))),(4,.q ((k:Int)+1+1))] [(0,.own 0 n),(3,.q (minV v i')),(4,.q ((i':Int)+1))]/\wac z0 z0)/\P i') ((∀(i:Nat),i<n->true=true)/\∃(O':oL7),wac z0 O'/\R (.exit 0) (St.mk [(3,.q (minV v k))] O' 1 []))):=by kernel_rfl
theorem nf_max(n:Nat)(v:Nat->Int)(R:oR7):wpFn te [] [(5,L_mm n v (maxV v)),(1002,λ_ _=>False)] 0 Tryz.f185 [.own 0 n] [.row 3 1 n (λi=>[.q (v i)]) false] R=(letI z0:=([(0,.row 3 1 n (λ(i:Nat)=>[.q (v i)]) false)]:oL7);wab (decide ((n:Int)<1)) False (((0:Int)<=0/\(0:Int)<(n:Int))/\(0<n/\1=1)/\(TEq [(0,.own 0 n),(3,.q (v 0)),(4,.q 1)] [(0,.own 0 n),(3,.q (maxV v 0)),(4,.q ((↑0:Int)+1))]/\wac z0 z0)/\1<=n/\n<=4611686018427387904/\(∀(i:Nat),i<n->true=true)/\∃(O':oL7),wac z0 O'/\R (.q (maxV v (n - 1))) O')):=by kernel_rfl
theorem w0j(n:Nat)(v:Nat->Int)(k:Nat)(P:Nat->Prop)(R:eR7):wat ⟨te,[],[],1,25,0⟩ (wau Tryz.f185 5) [0,3,4] [3] [] (wf3 n v (maxV v)) P R (wf3 n v (maxV v) k)=(letI z0:=([(0,.row 3 1 n (λ(i:Nat)=>[.q (v i)]) false)]:oL7);wab (decide ((k:Int)+1<(n:Int))) (((0:Int)<=(k:Int)+1/\(k:Int)+1<(n:Int))/\(((k:Int)+1).toNat<n/\1=1)/\inR .i64 ((k:Int)+1+1)/\∃(i':Nat),(TEq [(0,.own 0 n),(3,.q (max (maxV v k) (v ((k:Int)+1).toNat))),(4,.q ((k:Int)+1+1))] [(0,.own 0 n),(3,.q (maxV v i')),(4,.q ((i':Int)+1))]/\wac z0 z0)/\P i') ((∀(i:Nat),i<n->true=true)/\∃(O':oL7),wac z0 O'/\R (.exit 0) (St.mk [(3,.q (maxV v k))] O' 1 []))):=by kernel_rfl
theorem w00(n:Nat)(v:Nat->Int)(R:oR7):wpFn te [(184,.det wme),(185,.det wmg),(186,.det wg8)] [(7,woh n v)] 0 Tryz.f171 [.own 0 n] [.row 3 1 n (λi=>[.q (v i)]) false] R=(letI z8:=((0:Int)<=0/\(0:Int)<(n:Int):Prop);letI z7:=((0:Int)<=1/\(1:Int)<=(n:Int):Prop);letI z6:=(n - (1:Int).toNat);letI z5:=(vInt λ(i:Nat)=>[.q (v i)]);letI z4:=([(4,.str (wda (v 0)++wcf v 0)),(36,.sub 0 1 1 (n - 1)),(37,.q (↑(n - 1):Int)),(38,.q (↑0:Int))]:tL7);letI z3:=(3=3/\false=false/\1<=n/\n=n/\n<=4611686018427387904/\(λ(i:Nat)=>[.q (v i)])=waj z5:Prop);letI z2:=(∀(i:Nat),i<n->true=true:Prop);letI z1:=([(0,.row 3 1 n (λ(i:Nat)=>[.q (v i)]) false)]:oL7);letI z0:=(z2/\∃(O':oL7),wac z1 O'/\R (.tuple [.str [],.q 64]) O':Prop);wab (decide ((n:Int)<1)) z0 (wab (decide ((5:Int)<(n:Int))) z0 (z2/\z3/\z2/\wab (decide (minV z5 (n - 1)<1)) z0 (z2/\z3/\z2/\wab (decide ((99:Int)<maxV z5 (n - 1))) z0 (z8/\(0<n/\1=1)/\((0:Int)<=v 0/\v 0<100)/\z8/\(0<n/\1=1)/\wab (decide (v 0<10)) (([(48:UInt8)]).length+(decF (v 0)).length<=9223372036854775807/\z7/\(TEq [(4,.str ([(48:UInt8)]++decF (v 0))),(36,.sub 0 1 1 z6),(37,.q (z6:Int)),(38,.q 0)] z4/\wac z1 z1)/\wbh n v=true/\z2/\∃(O':oL7),wac z1 O'/\R (.tuple [.str (fmtZ n v),.q 0]) O') (z7/\(TEq [(4,.str (decF (v 0))),(36,.sub 0 1 1 z6),(37,.q (z6:Int)),(38,.q 0)] z4/\wac z1 z1)/\wbh n v=true/\z2/\∃(O':oL7),wac z1 O'/\R (.tuple [.str (fmtZ n v),.q 0]) O')))))):=by kernel_rfl
theorem w0z(n:Nat)(v:Nat->Int)(k:Nat)(P:Nat->Prop)(R:eR7):wat ⟨te,[(186,.det wg8)],[],1,49,0⟩ (wau Tryz.f171 7) [4,36,37,38] [4] [] (wmz n v) P R (wmz n v k)=(letI z2:=(↑(n - 1):Int);letI z1:=(v (1+(k:Int).toNat));letI z0:=([(0,.row 3 1 n (λ(i:Nat)=>[.q (v i)]) false)]:oL7);wab (decide ((k:Int)<z2)) (((0:Int)<=(k:Int)/\(k:Int)<z2/\1=1)/\(1+(k:Int).toNat<n/\1=1)/\((0:Int)<=v (1+(k:Int).toNat)/\v (1+(k:Int).toNat)<100)/\([(46:UInt8)]).length+(decF z1).length<=9223372036854775807/\(wda (v 0)++wcf v k).length+([(46:UInt8)]++decF z1).length<=9223372036854775807/\inR .i64 ((k:Int)+1)/\∃(i':Nat),(TEq [(4,.str (wda (v 0)++wcf v k++([(46:UInt8)]++decF z1))),(36,.sub 0 1 1 (n - 1)),(37,.q z2),(38,.q ((k:Int)+1))] [(4,.str (wda (v 0)++wcf v i')),(36,.sub 0 1 1 (n - 1)),(37,.q z2),(38,.q (i':Int))]/\wac z0 z0)/\P i') ((∀(i:Nat),i<n->true=true)/\∃(O':oL7),wac z0 O'/\R (.exit 0) (St.mk [(4,.str (wda (v 0)++wcf v k))] O' 1 []))):=by kernel_rfl
variable {C:Ctx} [C.Loose]
theorem w16(hP:C.P=Tryz.prog)(n:Nat)(v:Nat->Int):waf C 1 25 (wah Tryz.f184 5) (L_mm n v (minV v)):=by
 have _:C.Loose:=inferInstance;rintro st Q ⟨h0,hn,hn2,hQ⟩;refine waf.mk (prg hP) [] 0 .nil [0,3,4] [3] [] (wf3 n v (minV v)) (λk=>k+1<=n) (λk=>n - k) 0 hn h0 (λk hk=>?_) (λi=>⟨λ_ _=>rfl,trivial⟩);rw[w0g];refine wag (λh=>?_) (λh=>⟨λ_ _=>rfl,_,wbr,?_⟩)
 ·have e:((k:Int)+1).toNat=k+1:=by omega
  simp only[inR,e,and_true];exact⟨by omega,by omega,by omega,k+1,⟨rfl,wbr⟩,by omega,by omega⟩
 ·have:k=n - 1:=by omega
  rw[this];exact hQ
theorem w2a(hP:C.P=Tryz.prog)(n:Nat)(v:Nat->Int):waf C 1 25 (wah Tryz.f185 5) (L_mm n v (maxV v)):=by
 have _:C.Loose:=inferInstance;rintro st Q ⟨h0,hn,hn2,hQ⟩;refine waf.mk (prg hP) [] 0 .nil [0,3,4] [3] [] (wf3 n v (maxV v)) (λk=>k+1<=n) (λk=>n - k) 0 hn h0 (λk hk=>?_) (λi=>⟨λ_ _=>rfl,trivial⟩);rw[w0j];refine wag (λh=>?_) (λh=>⟨λ_ _=>rfl,_,wbr,?_⟩)
 ·have e:((k:Int)+1).toNat=k+1:=by omega
  simp only[inR,e,and_true];exact⟨by omega,by omega,by omega,k+1,⟨rfl,wbr⟩,by omega,by omega⟩
 ·have:k=n - 1:=by omega
  rw[this];exact hQ
theorem min_ok(hP:C.P=Tryz.prog):wad C 184 wme:=by
 rintro args objs U Os vc h hvc;unfold wme at h;split at h<;>cases h;rename_i n t m f fr;obtain⟨rfl,rfl,hn,rfl,hn2,hf⟩:=hvc;generalize vInt f=v at hf;subst hf
 refine wad.wpL (prg hP) [] [(5,L_mm n v (minV v)),(1002,λ_ _=>False)] 0 .nil (hP ▸ Tryz.func184) rfl rfl rfl
  [(regC Tryz.f184 2,λ_ _=>False),(wah Tryz.f184 5,L_mm n v (minV v))] (by kernel_rfl) ⟨λ_ _ h=>h.elim,w16 hP n v,trivial⟩ ?_
 show wpFn _ _ _ _ _ _ [.row _ _ _ (λi=>[.q (v i)]) _] _;rw[nf_min];exact wag (λh=>absurd h (by omega)) (λ_=>⟨by omega,by omega,⟨rfl,wbr⟩,hn,hn2,λ_ _=>rfl,_,wbr,rfl,rfl⟩)
theorem max_ok(hP:C.P=Tryz.prog):wad C 185 wmg:=by
 rintro args objs U Os vc h hvc;unfold wmg at h;split at h<;>cases h;rename_i n t m f fr;obtain⟨rfl,rfl,hn,rfl,hn2,hf⟩:=hvc;generalize vInt f=v at hf;subst hf
 refine wad.wpL (prg hP) [] [(5,L_mm n v (maxV v)),(1002,λ_ _=>False)] 0 .nil (hP ▸ Tryz.func185) rfl rfl rfl
  [(regC Tryz.f185 2,λ_ _=>False),(wah Tryz.f185 5,L_mm n v (maxV v))] (by kernel_rfl) ⟨λ_ _ h=>h.elim,w2a hP n v,trivial⟩ ?_
 show wpFn _ _ _ _ _ _ [.row _ _ _ (λi=>[.q (v i)]) _] _;rw[nf_max];exact wag (λh=>absurd h (by omega)) (λ_=>⟨by omega,by omega,⟨rfl,wbr⟩,hn,hn2,λ_ _=>rfl,_,wbr,rfl,rfl⟩)
theorem wty(hP:C.P=Tryz.prog):wad C 186 wg8:=by
 rintro args objs U Os vc h hvc;unfold wg8 at h;split at h<;>cases h;rename_i n;obtain⟨i,rfl⟩:∃i:Nat,n=i:=⟨n.toNat,by omega⟩;refine war.below ⟨Tryz.f186,hP ▸ Tryz.func186,rfl,by decide⟩ λw M cargs _ _ hM hl hv=>?_;obtain⟨a,rfl⟩:=mem1 hl;have:=(hv 0 _ _ rfl rfl).int_iff;subst this;rw[hP];refine(Tryz.strconv_Itoa_small i (by omega) w).mono ?_;rintro e w' ⟨rfl,rfl⟩;exact⟨_,rfl,Below.refl _ _,.str (by simp[decF])⟩
theorem w3l(hP:C.P=Tryz.prog)(n:Nat)(v:Nat->Int):waf C 1 49 (wah Tryz.f171 7) (woh n v):=by
 rintro st Q ⟨h0,hok,hQ⟩;have hv:=wuo hok;have hn:=fmtOK_n hok;refine waf.mk (prg hP) [(186,.det wg8)] 0 (.cons (wty hP) .nil) [4,36,37,38] [4] [] (wmz n v) (λk=>k<=n - 1) (λk=>n - k) 0 (zL7 _) h0 (λk hk=>?_) (λi=>⟨λ_ _=>rfl,trivial⟩);rw[w0z];have hl1:=w3n (hv 0 (by omega));have hl2:=wun (n:=n) (λi hi=>hv i hi) k (by omega);refine wag (λh=>?_) (λh=>⟨λ_ _=>rfl,_,wbr,?_⟩)
 ·have hlt:k<n - 1:=by omega
  have e:1+(k:Int).toNat=k+1:=by omega
  have hk1:=hv (k+1) (by omega);have hl3:=wkv hk1;simp only[inR,e,and_true,lA7,List.length_cons,List.length_nil];refine⟨by omega,by omega,by omega,by omega,by omega,by omega,k+1,⟨?_,wbr⟩,by omega,by omega⟩;unfold TEq;rw[show wcf v (k+1)=wcf v k++(46::decF (v (k+1))) from rfl];simp
 ·have:k=n - 1:=by omega
  rw[this];exact hQ
theorem w3k(hP:C.P=Tryz.prog):wad C 171 wmx:=by
 rintro args objs U Os vc h hvc;unfold wmx at h;split at h<;>cases h;rename_i n t m f fr;obtain⟨rfl,rfl,rfl,hn2,hf⟩:=hvc;generalize vInt f=v at hf;subst hf
 refine wad.wpL (prg hP) [(184,.det wme),(185,.det wmg),(186,.det wg8)] [(7,woh n v)] 0 (.cons (min_ok hP) (.cons (max_ok hP) (.cons (wty hP) .nil))) (hP ▸ Tryz.func171) rfl rfl rfl
  [(wah Tryz.f171 7,woh n v)] (by kernel_rfl) ⟨w3l hP n v,trivial⟩ ?_
 show wpFn _ _ _ _ _ _ [.row _ _ _ (λi=>[.q (v i)]) _] _;rw[w00];have hvi:(vInt λi=>[AV.q (v i)])=v:=rfl;rw[hvi];have bad:wbh n v=false->(AV.tuple [.str [],.q 64]= .tuple [.str (bif wbh n v then fmtZ n v else []),.q (bif wbh n v then 0 else 64)]):=λh=>by rw[h];rfl
 have good:wbh n v=true->(AV.tuple [.str (fmtZ n v),.q 0]= .tuple [.str (bif wbh n v then fmtZ n v else []),.q (bif wbh n v then 0 else 64)]):=λh=>by rw[h];rfl
 refine wag (λh1=>⟨λ_ _=>rfl,_,wbr,bad ?_,rfl⟩) (λh1=>wag (λh2=>⟨λ_ _=>rfl,_,wbr,bad ?_,rfl⟩) (λh2=>⟨λ_ _=>rfl,⟨rfl,rfl,by omega,rfl,hn2,rfl⟩,λ_ _=>rfl,
  wag (λh3=>⟨λ_ _=>rfl,_,wbr,bad ?_,rfl⟩) (λh3=>⟨λ_ _=>rfl,⟨rfl,rfl,by omega,rfl,hn2,rfl⟩,λ_ _=>rfl,wag (λh4=>⟨λ_ _=>rfl,_,wbr,bad ?_,rfl⟩) (λh4=>?_)⟩)⟩))
 ·unfold wbh;rw[decide_eq_false (p:=1<=n) (by omega)];rfl
 ·unfold wbh;rw[decide_eq_false (p:=n<=5) (by omega)];simp
 ·unfold wbh;rw[decide_eq_false (p:=1<=minV v (n - 1)) (by omega)];simp
 ·unfold wbh;rw[decide_eq_false (p:=maxV v (n - 1)<=99) (by omega)];simp
 ·have hok:wbh n v=true:=by
   unfold wbh;rw[decide_eq_true (p:=1<=n) (by omega),decide_eq_true (p:=n<=5) (by omega),decide_eq_true (p:=1<=minV v (n - 1)) (by omega),decide_eq_true (p:=maxV v (n - 1)<=99) (by omega)];rfl
  have hv:=wuo hok 0 (by omega);have hl3:=wkv hv;refine⟨by omega,⟨by omega,rfl⟩,by omega,by omega,⟨by omega,rfl⟩,wag (λh5=>⟨by simp only[List.length_cons,List.length_nil];omega,by omega,⟨?_,wbr⟩,hok,λ_ _=>rfl,_,wbr,good hok,rfl⟩) (λh5=>⟨by omega,⟨?_,wbr⟩,hok,λ_ _=>rfl,_,wbr,good hok,rfl⟩)⟩
  ·unfold TEq wda;rw[decide_eq_true h5];simp[wcf]
  ·unfold TEq wda;rw[decide_eq_false h5];simp[wcf]
theorem wz4(s:List UInt8)(R:oR7):wpFn te [(169,.det wln),(171,.det wmx)] [(3,wn7 s)] 0 Tryz.f163 [.str s] [] R=(letI z2:=(∀(i:Nat),i<(words s).length->true=true:Prop);letI z1:=(vInt λ(i:Nat)=>[.q (wbx s i)]);letI z0:=(words s).length;(s.length<4294967281/\[(46:UInt8)]=[(46:UInt8)])/\(TEq [(0,.str s),(4,.own 0 0),(12,.view 1 z0 λ(i:Nat)=>[.str (List.getD (words s) i [])]),(13,.q (z0:Int)),(14,.q 0)] [(0,.str s),(4,.own 0 0),(12,.view 1 z0 λ(i:Nat)=>[.str (List.getD (words s) i [])]),(13,.q (z0:Int)),(14,.q (↑0:Int))]/\wac [(0,.row 3 1 0 (λ(_x:Nat)=>[]) false)] [(0,.row 3 1 0 (λ(i:Nat)=>[.q (wbx s i)]) false)])/\s.length<4294967281/\z2/\(3=3/\false=false/\(words s).length=(words s).length/\(words s).length<=4611686018427387904/\(λ(i:Nat)=>[.q (wbx s i)])=waj z1)/\z2/\wab (!decide ((bif wbh z0 z1 then (0:Int) else (64:Int))=0)) (R (.tuple [.nil,.q 60]) []) (wab (!decide ((bif wbh z0 z1 then fmtZ z0 z1 else [])=s)) (R (.tuple [.nil,.q 60]) []) (z2/\∃(O':oL7),wac [(0,.row 3 1 z0 (λ(i:Nat)=>[.q (wbx s i)]) false)] O'/\R (.tuple [.own 0 z0,.q 0]) O'))):=by kernel_rfl
theorem wz3(s:List UInt8)(k:Nat)(P:Nat->Prop)(R:eR7):wat ⟨te,[(170,.det wnf)],[],0,41,0⟩ (wau Tryz.f163 3) [0,4,12,13,14] [0,4] [] (wl4 s) P R (wl4 s k)=(letI z1:=(List.getD (words s) (k:Int).toNat []);letI z0:=(words s).length;wab (decide ((k:Int)<(z0:Int))) (((0:Int)<=(k:Int)/\(k:Int)<(z0:Int)/\1=1)/\z1.length<=281474976710656/\(1<=16777216/\1=1/\1<=9223372036854775807)/\((1<=1/\1=1)/\k<=k/\1=1/\3=3/\1=1/\k+1<=9223372036854775807/\(k+1) * 8<=140737488355328)/\inR .i64 ((k:Int)+1)/\∃(i':Nat),(TEq [(0,.str s),(4,.own 0 (k+1)),(12,.view 1 z0 λ(i:Nat)=>[.str (List.getD (words s) i [])]),(13,.q (z0:Int)),(14,.q ((k:Int)+1))] [(0,.str s),(4,.own 0 i'),(12,.view 1 z0 λ(i:Nat)=>[.str (List.getD (words s) i [])]),(13,.q (z0:Int)),(14,.q (i':Int))]/\wac [(0,.row 3 1 (k+1) (apF k (λ(i:Nat)=>[.q (wbx s i)]) (waq 1 (.q (wiq z1)::List.append [] (List.flatten (List.replicate (nat_lit 0) [.q 0]))))) false)] [(0,.row 3 1 i' (λ(i:Nat)=>[.q (wbx s i)]) false)])/\P i') ((∀(i:Nat),i<k->true=true)/\∃(O':oL7),wac [(0,.row 3 1 k (λ(i:Nat)=>[.q (wbx s i)]) false)] O'/\R (.exit 0) (St.mk [(0,.str s),(4,.own 0 k)] O' 1 []))):=by kernel_rfl
variable {C:Ctx} [C.Loose]
theorem ww5(hP:C.P=Tryz.prog)(hL:∀w,C.laid w->LaidW w):wad C 169 wln:=by
 rintro args objs U Os vc h hvc;unfold wln at h;split at h<;>cases h;rename_i s sep;obtain⟨hs,rfl⟩:=hvc;refine war.below ⟨Tryz.f169,hP ▸ Tryz.func169,rfl,by decide⟩ λw M cargs hlaid _ hM hl hv=>?_;obtain⟨m,hm⟩:=(hL w hlaid).maxLen;obtain⟨a,b,rfl⟩:=mem2 hl;have e1:=(hv 0 _ _ rfl rfl).str_iff;have e2:=(hv 1 _ _ rfl rfl).str_iff;subst e1;subst e2;rw[hP];refine(Tryz.strings_Split ⟨s.toArray⟩ ⟨#[46]⟩ m w (by simpa[ByteArray.size] using hs) hm (by decide)).mono ?_;rintro e w' ⟨rfl,rfl⟩;have hd:=Lib.splitB_data ⟨#[46]⟩ 0 (Lib.countB ⟨s.toArray⟩ ⟨#[46]⟩) ⟨s.toArray⟩;have hw:(Lib.splitB ⟨#[46]⟩ 0 (Lib.countB ⟨s.toArray⟩ ⟨#[46]⟩) ⟨s.toArray⟩).map (·.data.toList)=words s:=by
  rw[hd];simp[words,Lib.split]
 have hlen:(Lib.splitB ⟨#[46]⟩ 0 (Lib.countB ⟨s.toArray⟩ ⟨#[46]⟩) ⟨s.toArray⟩).length=(words s).length:=by rw[← hw];simp
 have hcnt:Lib.countB ⟨s.toArray⟩ ⟨#[46]⟩+1=(words s).length:=by
  rw[whj]
 refine⟨_,rfl,(Below.refl _ _).alloc (lR7 _) _,?_⟩;rw[hcnt];have hle:=Lib.count_le s [46];refine V.newview hM (by simp[hlen]) (by rw[whj];unfold maxLen;omega) (λi v hv=>?_) (λi v hv=>?_)
 ·rw[List.getElem?_toArray,List.getElem?_map] at hv;obtain⟨x,_,rfl⟩:=Option.map_eq_some_iff.1 hv;exact rfl
 ·simp at hv;obtain⟨x,hx,rfl⟩:=hv;refine⟨_,rfl,.str ?_⟩;have:(words s)[i]?=some x.data.toList:=by rw[← hw];simp[hx]
  simp[List.getD,this]
theorem atoi_ok(hP:C.P=Tryz.prog)(hL:∀w,C.laid w->LaidW w):wad C 170 wnf:=by
 rintro args objs U Os vc h hvc;unfold wnf at h;split at h<;>cases h;rename_i s;refine war.below ⟨Tryz.f170,hP ▸ Tryz.func170,rfl,by decide⟩ λw M cargs hlaid _ hM hl hv=>?_;obtain⟨a,rfl⟩:=mem1 hl;have e1:=(hv 0 _ _ rfl rfl).str_iff;subst e1;rw[hP];have hsz:(⟨s.toArray⟩:ByteArray).size=s.length:=by simp[ByteArray.size]
 have hdt:(⟨s.toArray⟩:ByteArray).data.toList=s:=by simp
 have tup:∀(w':World) (n:Int) (e:Value),V w' M nob (.tuple #[.int .i64 n,e]) (.tuple [.int .i64 n,.any]):=λw' n e=>.tuple rfl λj v u hv hu=>by
  match j with
  |0=>simp at hv hu;subst hv;subst hu;exact .int
  |1=>simp at hv hu;subst hv;subst hu;exact .any
  |j+2=>simp at hv
 unfold wiq
 cases hh:Lib.atoiAll s with
 |ok v=>
  refine(Tryz.strconv_Atoi_ok ⟨s.toArray⟩ (by omega) v (by rw[hdt];exact hh) w).mono ?_;rintro e w' ⟨rfl,hw⟩;refine⟨_,rfl,?_,tup _ _ _⟩
  rcases hw with rfl | ⟨t,rfl⟩
  ·exact Below.refl _ _
  ·exact Lib.bytesWorld_below _ _ _
 |range=>
  obtain⟨t,p,he⟩:=(hL w hlaid).errR;refine(Any.strconv_Atoi_range Tryz.laysC172 ⟨s.toArray⟩ (by omega) (by rw[hdt];exact hh) _ w he (.inr ⟨t,p,rfl⟩)).mono ?_;rintro e w' ⟨N,rfl,_,_,hb⟩;rw[hdt];exact⟨_,rfl,hb,tup _ _ _⟩
 |_=>
  obtain⟨t,p,he⟩:=(hL w hlaid).errS;refine(Any.strconv_Atoi_syntax Tryz.laysC172 ⟨s.toArray⟩ (by omega) (by rw[hdt];exact hh) _ w he (.inr ⟨t,p,rfl⟩)).mono ?_;rintro e w' ⟨N,rfl,_,_,hb⟩;exact⟨_,rfl,hb,tup _ _ _⟩
theorem wyk(hP:C.P=Tryz.prog)(hL:∀w,C.laid w->LaidW w)(s:List UInt8):waf C 0 41 (wah Tryz.f163 3) (wn7 s):=by
 rintro st Q ⟨h0,hs,hQ⟩;refine AWP.ownNil 4 3 1 ?_;have hwl:(words s).length<=s.length+2:=by
  have:=Lib.count_le s [46];rw[whj];omega
 refine waf.mk (prg hP) [(170,.det wnf)] 0 (.cons (atoi_ok hP hL) .nil) [0,4,12,13,14] [0,4] [] (wl4 s) (λk=>k<=(words s).length) (λk=>(words s).length - k) 0 (zL7 _) h0 (λk hk=>?_) (λi=>⟨λ_ _=>rfl,trivial⟩);rw[wz3];refine wag (λh=>?_) (λh=>⟨λ_ _=>rfl,_,wbr,?_⟩)
 ·have hlt:k<(words s).length:=by omega
  have hlw:((words s).getD k []).length<=s.length:=by
   have:=wwf s ((words s).getD k []) (by simp[List.getD,hlt]);exact this
  have hrow:∀i,i<k+1->apF k (λi=>[AV.q (wbx s i)]) (waq 1 [.q (wiq ((words s).getD k []))]) i=[.q (wbx s i)]:=by
   intro i hi;unfold apF;split
   ·rfl
   ·have:i=k:=by omega
    subst this;rw[Nat.sub_self];rfl
  simp only[inR,tN7]
  and_intros
  any_goals omega
  any_goals (simp;done)
  exact⟨k+1,⟨rfl,⟨rfl,rfl,rfl,rfl,rfl,hrow⟩,trivial⟩,by omega,by omega⟩
 ·have:k=(words s).length:=by omega
  rw[this] at *;exact hQ
theorem wyj(hP:C.P=Tryz.prog)(hL:∀w,C.laid w->LaidW w):wa8 C 163 wnl:=by
 rintro args objs R h;unfold wnl at h;split at h
 ·rename_i s;obtain⟨hs,hR⟩:=h;have hR:=wb0 hR
  refine wa8.wpL (prg hP) [(169,.det wln),(171,.det wmx)] [(3,wn7 s)] 0 (.cons (ww5 hP hL) (.cons (w3k hP) .nil)) (hP ▸ Tryz.func163) rfl rfl rfl
   [(wah Tryz.f163 3,wn7 s)] (by kernel_rfl) ⟨wyk hP hL s,trivial⟩ ?_
  rw[wz4];have hvi:(vInt λi=>[AV.q (wbx s i)])=wbx s:=rfl;rw[hvi];have hwl:(words s).length<=s.length+2:=by
   have:=Lib.count_le s [46];rw[whj];omega
  refine⟨⟨hs,rfl⟩,⟨rfl,⟨rfl,rfl,rfl,rfl,rfl,λi hi=>by omega⟩,trivial⟩,hs,λ_ _=>rfl,⟨rfl,rfl,rfl,by omega,rfl⟩,λ_ _=>rfl,?_⟩
  cases hok:wbh (words s).length (wbx s) with
  |false=>exact hR.2 (by unfold wde;rw[hok];rfl)
  |true=>
   have e0:(!decide ((bif true then (0:Int) else 64)=0))=false:=rfl
   rw[e0];show wab (!decide (fmtZ (words s).length (wbx s)=s)) _ _;refine waw (λh1=>hR.2 ?_) (λh1=>⟨λ_ _=>rfl,_,wbr,hR.1 ?_⟩)
   ·unfold wde;rw[hok,decide_eq_false h1];rfl
   ·unfold wde;rw[hok];exact decide_eq_true h1
 ·exact h.elim
end Go.Eng
namespace Go.Eng
open Go.Proofs Go.RowKit
variable {C:Ctx} [C.Loose]
set_option maxRecDepth 20000
theorem w0l(s:List UInt8)(R:oR7):wpFn te [(163,.rel wnl)] [] 0 Tryz.f153 [.str s] [] R=(s.length<4294967281/\wab (wde s) ((∀(i:Nat),i<(words s).length->true=true)/\R (.q (↑(words s).length:Int)) []) (wab (!decide (s=[])) (R (.q (-1:Int)) []) (R (.q 0) []))):=by kernel_rfl
theorem w2k(hP:C.P=Tryz.prog)(hL:∀w,C.laid w->LaidW w):wad C 153 wmi:=by
 rintro args objs U Os vc h hvc;unfold wmi at h;split at h<;>cases h;rename_i s;refine wad.wp0 (prg hP) [(163,.rel wnl)] 0 (.cons (wyj hP hL) .nil) (hP ▸ Tryz.func153) rfl rfl rfl ?_;rw[w0l];refine⟨hvc,wal (λh=>⟨λ_ _=>rfl,?_,rfl⟩) (λh=>waw (λh'=>⟨?_,rfl⟩) (λh'=>⟨?_,rfl⟩))⟩
 ·unfold wfm;rw[h]
 ·unfold wfm;rw[h,decide_eq_false h']
 ·unfold wfm;rw[h,decide_eq_true h']
end Go.Eng
namespace Go.Eng
open Go.Proofs Go.RowKit
set_option maxRecDepth 20000
theorem nf_qty(d c a:Int)(R:oR7):wpFn te [] [] 0 Tryz.f155 [.agg [.q d,.q c,.q a]] [] R=(wab (decide (d<1)) (R (.q 80) []) (wab (decide ((4:Int)<d)) (R (.q 80) []) (wab (decide (c<1)) (R (.q 81) []) (wab (decide ((100:Int)<c)) (R (.q 81) []) (wab (decide (a<1)) (R (.q 82) []) ((c≠(0:Int)/\inR .i64 (Int.tdiv (1099511627776:Int) c))/\wab (decide (Int.tdiv (1099511627776:Int) c<a)) (R (.q 82) []) (R (.q 0) []))))))):=by kernel_rfl
variable {C:Ctx} [C.Loose]
theorem qty_ok(hP:C.P=Tryz.prog):wad C 155 wl1:=by
 have _:C.Loose:=inferInstance;rintro args objs U Os vc h hvc;unfold wl1 at h;split at h<;>cases h;rename_i d c a;refine wad.wp0 (prg hP) [] 0 .nil (hP ▸ Tryz.func155) rfl rfl rfl ?_;rw[nf_qty];refine wal (λh1=>?_) (λh1=>wal (λh2=>?_) (λh2=>wal (λh3=>?_) (λh3=>wal (λh4=>?_) (λh4=>wal (λh5=>?_) (λh5=>⟨wyb (of_decide_eq_false h3) (of_decide_eq_false h4),wal (λh6=>?_) (λh6=>?_)⟩)))))
 all_goals simp only[qtyF, *,cond_true,cond_false,and_self]
theorem w0s(s:List UInt8)(r:Int)(R:oR7):wpFn te [(191,.det wg9),(192,.det wlh)] [(38,wof s),(5,woe s (Utf8.encode r).data.toList),(25,λ_ _=>False)] 0 Tryz.f180 [.str s,.int .i32 r] [] R=(letI z3:=St.mk [(0,.str s),(175,.ptr 0 0)] [(0,.siter s 0)] 1 [];letI z1:=Array.toList (ByteArray.data (Utf8.encode r));letI z4:=(z1.length:Int);letI z2:=(St.mk [(0,.str s),(7,.str z1),(8,.q (z4 - (1:Int))),(9,.q (z4 - (1:Int)))] [] 0 []);letI z0:=(wab (decide (r=65533)) (some z3=some z3/\ascii s=true/\R (.q (-1:Int)) []) (True/\wab (!Lib.validRune r) (R (.q (-1:Int)) []) (True/\inR .i64 (z4 - (1:Int))/\some z2=some z2/\ascii s=true/\s.length<=1000000/\2<=z1.length/\z1.length<=4/\128<=UInt8.toNat (List.getD z1 (z1.length - 1) (0:UInt8))/\R (.q (-1:Int)) []/\R (.q (-1:Int)) [])));wab (decide ((0:Int)<=r)) (wab (decide (r<128)) (inR .u8 r/\True/\R (.q (Lib.indexByte s (Nat.toUInt8 r.toNat))) []) z0) z0):=by kernel_rfl
theorem w0r(s:List UInt8)(k:Nat)(P:Nat->Prop)(R:eR7):wat ⟨te,[],[],0,187,0⟩ (wau Tryz.f180 38) [0,175] [] [4] (wms s) P R (wms s k)=(wab (decide (k<s.length)) (True/\wab (decide ((↑(wbl s k).1:Int)=65533)) (R .ret (St.mk [(4,.q (k:Int))] [] 0 [])) (∃(i':Nat),some (St.mk [(0,.str s),(175,.ptr 0 0)] [(0,.siter s (k+(wbl s k).2))] 1 [])=some (St.mk [(0,.str s),(175,.ptr 0 0)] [(0,.siter s i')] 1 [])/\P i')) (True/\R (.exit 9) (St.mk [] [] 0 []))):=by kernel_rfl
theorem w0q(s e:List UInt8)(P:Unit->Prop)(R:eR7):wat ⟨te,[(191,.det wg9)],[(12,λ_ _=>False),(1015,λ_ _=>False),(1016,λ_ _=>False)],0,187,0⟩ (wau Tryz.f180 5) [0,7,8,9] [] [4] (λ_=>wmr s e) P R (wmr s e)=(letI z5:=(s.length:Int);letI z0:=(e.length:Int);letI z4:=((0:Int)<=z0 - (1:Int)/\z0 - (1:Int)<z0:Prop);letI z3:=(List.drop (z0 - (1:Int)+1).toNat s);letI z1:=(↑(UInt8.toNat (List.getD e (z0 - (1:Int)).toNat (0:UInt8))):Int);letI z2:=(Lib.indexByte z3 (Nat.toUInt8 z1.toNat)+1);wab (decide (z0 - (1:Int)<z5)) (((0:Int)<=z0 - (1:Int)/\z0 - (1:Int)<z5)/\z4/\wab (!decide ((↑(UInt8.toNat (List.getD s (z0 - (1:Int)).toNat (0:UInt8))):Int)=z1)) (inR .i64 (z0 - (1:Int)+1)/\((0:Int)<=z0 - (1:Int)+1/\z0 - (1:Int)+1<=z5)/\z4/\True/\wab (decide (Lib.indexByte z3 (Nat.toUInt8 z1.toNat)<0)) (R .ret (St.mk [(4,.q (-1:Int))] [] 0 [])) (inR .i64 z2/\inR .i64 (z0 - (1:Int)+z2)/\False)) False) (R (.exit 1) (St.mk [] [] 0 []))):=by kernel_rfl
theorem w09(s:List UInt8)(r:Int)(R:oR7):wpFn te [(180,.det wmt)] [] 0 Tryz.f167 [.str s,.int .i32 r] [] R=((ascii s=true/\s.length<=1000000/\(0:Int)<=r/\r<=1114111)/\R (.bool (decide ((0:Int)<=wb6 s r))) []):=by kernel_rfl
variable {C:Ctx} [C.Loose]
theorem wt4(hP:C.P=Tryz.prog):wad C 191 wg9:=by
 rintro args objs U Os vc h hvc;unfold wg9 at h;split at h<;>cases h;rename_i s c;refine war.below ⟨Tryz.f191,hP ▸ Tryz.func191,rfl,by decide⟩ λw M cargs _ _ hM hl hv=>?_;obtain⟨a,b,rfl⟩:=mem2 hl;have e1:=(hv 0 _ _ rfl rfl).str_iff;have e2:=(hv 1 _ _ rfl rfl).int_iff;subst e1;subst e2;rw[hP];refine(Tryz.strings_IndexByte ⟨s.toArray⟩ c w).mono ?_;rintro e w' ⟨rfl,rfl⟩;exact⟨_,rfl,Below.refl _ _,.int⟩
theorem wwp(hP:C.P=Tryz.prog):wad C 192 wlh:=by
 rintro args objs U Os vc h hvc;unfold wlh at h;split at h<;>cases h;rename_i r;refine war.below ⟨Tryz.f192,hP ▸ Tryz.func192,rfl,by decide⟩ λw M cargs _ _ hM hl hv=>?_;obtain⟨a,rfl⟩:=mem1 hl;have e1:=(hv 0 _ _ rfl rfl).int_iff;subst e1;rw[hP];refine(Tryz.utf8_ValidRune r w).mono ?_;rintro e w' ⟨rfl,rfl⟩;exact⟨_,rfl,Below.refl _ _,.bool⟩
theorem w20(hP:C.P=Tryz.prog)(s:List UInt8):waf C 0 187 (wah Tryz.f180 38) (wof s):=by
 have _:C.Loose:=inferInstance;rintro st Q ⟨h0,ha,hQ⟩;refine waf.mk (prg hP) [] 0 .nil [0,175] [] [4] (wms s) (λk=>k<=s.length) (λk=>s.length - k) 0 (zL7 _) h0 λk hk=>?_;rw[w0r];refine wal (λh=>?_) (λh=>⟨trivial,hQ⟩);have h:=of_decide_eq_true h;have hlt:=wvw ha h;rw[wo3 h hlt];refine⟨trivial,wal (λh'=>?_) (λ_=>⟨k+1,rfl,by omega,by omega⟩)⟩;have h':=of_decide_eq_true h';simp only at h';omega
theorem w2z(hP:C.P=Tryz.prog)(s e:List UInt8):waf C 0 187 (wah Tryz.f180 5) (woe s e):=by
 rintro st Q ⟨h0,ha,hs,h2,h4,hl,hQ1,hQ2⟩
 refine waf.mkL (prg hP) [(191,.det wg9)] [(12,λ_ _=>False),(1015,λ_ _=>False),(1016,λ_ _=>False)] 0 (.cons (wt4 hP) .nil)
  [(wah Tryz.f180 12,λ_ _=>False),(regC Tryz.f180 15,λ_ _=>False),(regC Tryz.f180 16,λ_ _=>False)] (by kernel_rfl)
  ⟨λ_ _ h=>h.elim,λ_ _ h=>h.elim,λ_ _ h=>h.elim,trivial⟩ [0,7,8,9] [] [4] (λ_:Unit=>wmr s e) (λ_=>True) (λ_=>0) () trivial h0 λ_ _=>?_
 rw[w0q];refine wal (λh=>?_) (λh=>hQ1);have h:=of_decide_eq_true h;have e1:((e.length:Int) - 1).toNat=e.length - 1:=by omega
 have e2:((e.length:Int) - 1+1).toNat=e.length:=by omega
 have hlo:=wvw ha (k:=e.length - 1) (by omega);simp only[e1,e2,inR];have hne:decide (((s.getD (e.length - 1) 0).toNat:Int)=((e.getD (e.length - 1) 0).toNat:Int))=false:=decide_eq_false (by omega);rw[hne];have hb:(e.getD (e.length - 1) 0).toNat<256:=(e.getD (e.length - 1) 0).toNat_lt;have hneg:=w26 (w5b ha e.length) (c:=((e.getD (e.length - 1) 0).toNat:Int).toNat.toUInt8) (by rw[wrk];exact hl);refine⟨by omega,by omega,by omega,by omega,by omega,trivial,?_⟩;rw[hneg];exact hQ2
theorem w23(hP:C.P=Tryz.prog):wad C 180 wmt:=by
 rintro args objs U Os vc h hvc;unfold wmt at h;split at h<;>cases h;rename_i s r;obtain⟨ha,hs,h0,h1⟩:=hvc
 refine wad.wpL (prg hP) [(191,.det wg9),(192,.det wlh)] [(38,wof s),(5,woe s (Utf8.encode r).data.toList),(25,λ_ _=>False)] 0
  (.cons (wt4 hP) (.cons (wwp hP) .nil)) (hP ▸ Tryz.func180) rfl rfl rfl
  [(wah Tryz.f180 38,wof s),(wah Tryz.f180 5,woe s (Utf8.encode r).data.toList),(wah Tryz.f180 25,λ_ _=>False)] (by kernel_rfl)
  ⟨w20 hP s,w2z hP s _,λ_ _ h=>h.elim,trivial⟩ ?_
 rw[w0s];refine wal (λ_=>wal (λh=>?_) (λh=>?_)) (λh=>absurd h0 (of_decide_eq_false h))
 ·have h':=of_decide_eq_true h;refine⟨by simp only[inR];omega,trivial,?_,rfl⟩;simp only[wb6,h]
 ·have h':=of_decide_eq_false h;refine wal (λ_=>⟨rfl,ha,?_,rfl⟩) (λ_=>⟨trivial,wal (λ_=>⟨?_,rfl⟩) (λhv=>?_)⟩)
  ·simp only[wb6,h]
  ·simp only[wb6,h]
  ·have hv:Lib.validRune r=true:=by simpa using hv
   obtain⟨l1,l2,l3⟩:=w3y (by omega) hv;refine⟨trivial,by simp only[inR];omega,rfl,ha,hs,l1,l2,l3,⟨?_,rfl⟩,⟨?_,rfl⟩⟩
   ·simp only[wb6,h]
   ·simp only[wb6,h]
theorem w38(hP:C.P=Tryz.prog):wad C 167 wm4:=by
 rintro args objs U Os vc h hvc;unfold wm4 at h;split at h<;>cases h;rename_i s r;refine wad.wp0 (prg hP) [(180,.det wmt)] 0 (.cons (w23 hP) .nil) (hP ▸ Tryz.func167) rfl rfl rfl ?_;rw[w09];exact⟨hvc,rfl,rfl⟩
theorem w0f(r:Int)(R:oR7):wpFn te [(167,.det wm4)] [] 0 Tryz.f166 [.int .i32 r] [] R=((true=true/\38<=1000000/\(0:Int)<=r/\r<=1114111)/\R (.bool !decide ((0:Int)<=wb6 ([(97:UInt8),98,99,100,101,102,103,104,105,106,107,108,109,110,111,112,113,114,115,116,117,118,119,120,121,122,48,49,50,51,52,53,54,55,56,57,45,46]) r)) []):=by kernel_rfl
theorem w0u(s:List UInt8)(R:oR7):wpFn te [] [(2,wog s)] 0 Tryz.f190 [.str s,.func 166 [],.bool true] [] R=(letI z0:=St.mk [(1,.func 166 []),(2,.bool true),(10,.ptr 0 0)] [(0,.siter s 0)] 1 [];some z0=some z0/\wab (List.all s isNB) (R (.q (-1:Int)) []) (R (.q (↑(wc3 s):Int)) [])):=by kernel_rfl
theorem w0t(s:List UInt8)(k:Nat)(P:Nat->Prop)(R:eR7):wat ⟨te,[(166,.det wmc)],[],0,21,0⟩ (wau Tryz.f190 2) [1,2,10] [] [6] (wmv s) P R (wmv s k)=(letI z1:=([(1,.func 166 []),(2,.bool true),(10,.ptr 0 0)]:tL7);letI z0:=(↑(wbl s k).1:Int);wab (decide (k<s.length)) (True/\((0:Int)<=z0/\z0<=1114111)/\wab (decide ((!decide ((0:Int)<=wb6 wes z0))=true)) (R .ret (St.mk [(6,.q (k:Int))] [] 0 [])) (∃(i':Nat),some (St.mk z1 [(0,.siter s (k+(wbl s k).2))] 1 [])=some (St.mk z1 [(0,.siter s i')] 1 [])/\P i')) (True/\R (.exit 0) (St.mk [] [] 0 []))):=by kernel_rfl
theorem w1p(s:List UInt8)(R:oR7):wpFn te [(190,.det wmu)] [] 0 Tryz.f179 [.str s,.func 166 []] [] R=(True/\R (.q (wev s)) []):=by kernel_rfl
theorem w1q(s:List UInt8)(R:oR7):wpFn te [(179,.det wng)] [] 0 Tryz.f165 [.str s,.func 166 []] [] R=(True/\R (.bool (decide ((0:Int)<=wev s))) []):=by kernel_rfl
theorem nf_name(s:List UInt8)(R:oR7):wpFn te [(164,.det wee),(165,.det wnh)] [] 0 Tryz.f154 [.str s] [] R=(wab (!decide (s=[])) (wab (decide ((s.length:Int)<=24)) (((0:Int)<=1/\(1:Int)<=(s.length:Int))/\((List.take (1:Int).toNat s).length<=9223372036854775807/\2<=36/\36<4294967281/\∀(b:UInt8),b∈[(97:UInt8),98,99,100,101,102,103,104,105,106,107,108,109,110,111,112,113,114,115,116,117,118,119,120,121,122,48,49,50,51,52,53,54,55,56,57]->UInt8.toNat b<128)/\wab (decide (weh ([(97:UInt8),98,99,100,101,102,103,104,105,106,107,108,109,110,111,112,113,114,115,116,117,118,119,120,121,122,48,49,50,51,52,53,54,55,56,57]) (List.take (1:Int).toNat s)=[])) (True/\R (.bool !!List.all s isNB) []) (R (.bool false) [])) (R (.bool false) [])) (R (.bool false) [])):=by kernel_rfl
variable {C:Ctx} [C.Loose]
theorem w1y(hP:C.P=Tryz.prog):wad C 166 wmc:=by
 rintro args objs U Os vc h hvc;unfold wmc at h;split at h<;>cases h;rename_i r;refine wad.wp0 (prg hP) [(167,.det wm4)] 0 (.cons (w38 hP) .nil) (hP ▸ Tryz.func166) rfl rfl rfl ?_;rw[w0f];exact⟨⟨rfl,by omega,hvc.1,hvc.2⟩,rfl,rfl⟩
theorem w25(hP:C.P=Tryz.prog)(s:List UInt8):waf C 0 21 (wah Tryz.f190 2) (wog s):=by
 rintro st Q ⟨h0,hQ⟩;have hQ:=wb0 hQ;refine waf.mk (prg hP) [(166,.det wmc)] 0 (.cons (w1y hP) .nil) [1,2,10] [] [6] (wmv s) (λk=>k<=s.length/\∀j,j<k->isNB (s.getD j 0)=true) (λk=>s.length - k) 0 ⟨zL7 _,λj h=>by omega⟩ h0 λk ⟨hk,hall⟩=>?_;rw[w0t];refine wal (λh=>?_) (λh=>⟨trivial,?_⟩)
 ·have h:=of_decide_eq_true h;have hle:=wxm h;refine⟨trivial,⟨by omega,by omega⟩,?_⟩
  -- what the predicate says of the rune is what isNB says of the byte
  have key:(decide (0<=wb6 wes ((wbl s k).1:Int)))=isNB (s.getD k 0)/\(isNB (s.getD k 0)=true->(wbl s k).2=1):=by
   by_cases hlo:(s.getD k 0).toNat<128
   ·rw[wo3 h hlo];exact⟨w1t _ hlo,λ_=>rfl⟩
   ·have hh:=wr5 h (by omega);have hn:isNB (s.getD k 0)=false:=by
     generalize s.getD k 0=b at *;simp only[isNB,wd9,Bool.or_eq_false_iff,Bool.and_eq_false_imp,decide_eq_true_eq,decide_eq_false_iff_not];omega
    rw[w1u _ hh.1,hn];exact⟨rfl,λh=>by cases h⟩
  rw[key.1];refine wal (λhb=>?_) (λhb=>?_)
  ·have hb:isNB (s.getD k 0)=false:=by simpa using hb
   have hf:s.all isNB=false:=by
    cases ha:s.all isNB with
    |false=>rfl
    |true=>
     have:=List.all_eq_true.1 ha (s.getD k 0) (by simp[List.getD,h]);rw[hb] at this;cases this
   obtain⟨b1,b2,b3⟩:=w46 hf;have:wc3 s=k:=by
    rcases Nat.lt_trichotomy (wc3 s) k with hl | hl | hl
    ·rw[hall _ hl] at b2;cases b2
    ·exact hl
    ·rw[b3 k hl] at hb;cases hb
   have hq:=hQ.2 hf;rw[this] at hq;exact hq
  ·have hb:isNB (s.getD k 0)=true:=by simpa using hb
   rw[key.2 hb];refine⟨k+1,rfl,⟨by omega,λj hj=>?_⟩,by omega⟩
   rcases Nat.lt_succ_iff_lt_or_eq.1 hj with hj | rfl
   ·exact hall j hj
   ·exact hb
 ·have h:=of_decide_eq_false h;refine hQ.1 (List.all_eq_true.2 λb hb=>?_);obtain⟨j,hj,rfl⟩:=List.getElem_of_mem hb;have:=hall j (by omega);simpa[List.getD,hj] using this
theorem w24(hP:C.P=Tryz.prog):wad C 190 wmu:=by
 rintro args objs U Os vc h hvc;unfold wmu at h;split at h<;>cases h;rename_i s;refine wad.wpL (prg hP) [] [(2,wog s)] 0 .nil (hP ▸ Tryz.func190) rfl rfl rfl [(wah Tryz.f190 2,wog s)] (by kernel_rfl) ⟨w25 hP s,trivial⟩ ?_;rw[w0u];refine⟨rfl,wal (λh=>⟨?_,rfl⟩) (λh=>⟨?_,rfl⟩)⟩
 ·simp only[wev,h]
 ·simp only[wev,h]
theorem w5h(hP:C.P=Tryz.prog):wad C 179 wng:=by
 rintro args objs U Os vc h hvc;unfold wng at h;split at h<;>cases h;rename_i s;refine wad.wp0 (prg hP) [(190,.det wmu)] 0 (.cons (w24 hP) .nil) (hP ▸ Tryz.func179) rfl rfl rfl ?_;rw[w1p];exact⟨trivial,rfl,rfl⟩
theorem w5i(hP:C.P=Tryz.prog):wad C 165 wnh:=by
 rintro args objs U Os vc h hvc;unfold wnh at h;split at h<;>cases h;rename_i s;refine wad.wp0 (prg hP) [(179,.det wng)] 0 (.cons (w5h hP) .nil) (hP ▸ Tryz.func165) rfl rfl rfl ?_;rw[w1q,w3q];exact⟨trivial,rfl,rfl⟩
theorem ws7(hP:C.P=Tryz.prog):wad C 154 wg6:=by
 rintro args objs U Os vc h hvc;unfold wg6 at h;split at h<;>cases h;rename_i s;refine wad.wp0 (prg hP) [(164,.det wee),(165,.det wnh)] 0 (.cons (wi1 hP) (.cons (w5i hP) .nil)) (hP ▸ Tryz.func154) rfl rfl rfl ?_;rw[nf_name]
 cases s with
 |nil=>exact⟨rfl,rfl⟩
 |cons b r=>
  have e:(b::r).take (Int.toNat 1)=[b]:=rfl;have hasc:∀x∈wjn,UInt8.toNat x<128:=by decide+kernel
  rw[e,www];have hl:(List.length (b::r):Int)=r.length+1:=by simp
  have hl':List.length (b::r)=r.length+1:=rfl;have hd:(b::r).getD 0 0=b:=rfl;refine wal (λ_=>wal (λh=>⟨by omega,⟨by simp,by omega,by omega,hasc⟩,wal (λh'=>⟨trivial,?_,rfl⟩) (λh'=>⟨?_,rfl⟩)⟩) (λh=>⟨?_,rfl⟩)) (λh=>by simp at h)
  ·have h:=of_decide_eq_true h;simp only[wa6,hd,h',hl',Bool.not_not];rw[decide_eq_true (by omega),decide_eq_true (by omega)];rfl
  ·simp only[wa6,hd,h',Bool.and_false,Bool.false_and]
  ·have h:=of_decide_eq_false h;simp only[wa6,hl'];rw[decide_eq_false (p:=r.length+1<=24) (by omega)];simp
end Go.Eng
namespace Go.Eng
open Go.Proofs
set_option maxRecDepth 20000
theorem w04(s:List UInt8)(a b:Int)(R:oR7):wpFn te [(164,.det wee)] [] 0 Tryz.f157 [.str s,.q a,.q b] [] R=(letI z0:=((s.length<=9223372036854775807/\2<=10/\10<4294967281/\∀(b:UInt8),b∈[(48:UInt8),49,50,51,52,53,54,55,56,57]->UInt8.toNat b<128)/\R (.bool (decide (weh ([(48:UInt8),49,50,51,52,53,54,55,56,57]) s=[]))) []:Prop);wab (decide ((s.length:Int)=a)) z0 (wab (decide ((s.length:Int)=b)) z0 (R (.bool false) []))):=by kernel_rfl
theorem w1i(s:List UInt8)(R:oR7):wpFn te [(157,.det wha)] [(5,wol s)] 0 Tryz.f158 [.str s] [] R=(((7:Int)<=100/\(12:Int)<=100)/\wab (!wbj s (7:Int) (12:Int)) (R (.tuple [.q 0,.bool false]) []) (some (St.mk [(0,.str s),(4,.q 0),(11,.q (s.length:Int)),(12,.q 0)] [] 0 [])=some (St.mk [(0,.str s),(4,.q (wa1 s 0)),(11,.q (s.length:Int)),(12,.q (↑0:Int))] [] 0 [])/\s.length<=12/\List.all s wbe=true/\(10:Int)≠(0:Int)/\inR .i64 ((10:Int) - Int.tmod (wa1 s s.length) (10:Int))/\(10:Int)≠(0:Int)/\R (.tuple [.q (Int.tmod ((10:Int) - Int.tmod (wa1 s s.length) (10:Int)) (10:Int)),.bool true]) [])):=by kernel_rfl
theorem w1h(s:List UInt8)(k:Nat)(P:Nat->Prop)(R:eR7):wat ⟨te,[],[],0,36,0⟩ (wau Tryz.f158 5) [0,4,11,12] [4] [] (S_cd s) P R (S_cd s k)=(letI z1:=(s.length:Int);letI z3:=(z1 - (k:Int));letI z0:=(↑(UInt8.toNat (List.getD s (k:Int).toNat (0:UInt8))):Int);letI z2:=(wa1 s k+((1:Int)+2 * Int.tmod z3 (2:Int)) * ((z0 - (48:Int)) % (256:Int)));wab (decide ((k:Int)<z1)) (inR .i64 z3/\(2:Int)≠(0:Int)/\inR .i64 ((2:Int) * Int.tmod z3 (2:Int))/\inR .i64 ((1:Int)+2 * Int.tmod z3 (2:Int))/\((0:Int)<=(k:Int)/\(k:Int)<z1)/\inR .i64 ((z0 - (48:Int)) % (256:Int))/\inR .i64 (((1:Int)+2 * Int.tmod z3 (2:Int)) * ((z0 - (48:Int)) % (256:Int)))/\inR .i64 z2/\inR .i64 ((k:Int)+1)/\∃(i':Nat),some (St.mk [(0,.str s),(4,.q z2),(11,.q z1),(12,.q ((k:Int)+1))] [] 0 [])=some (St.mk [(0,.str s),(4,.q (wa1 s i')),(11,.q z1),(12,.q (i':Int))] [] 0 [])/\P i') (R (.exit 0) (St.mk [(4,.q (wa1 s k))] [] 0 []))):=by kernel_rfl
theorem wy1(s:List UInt8)(R:oR7):wpFn te [(157,.det wha),(158,.det wd1)] [] 0 Tryz.f139 [.str s] [] R=(letI z0:=(s.length:Int);letI z1:=(↑(UInt8.toNat (List.getD s (z0 - (1:Int)).toNat (0:UInt8))):Int);((8:Int)<=100/\(13:Int)<=100)/\wab (!wbj s (8:Int) (13:Int)) (R (.bool false) []) (inR .i64 (z0 - (1:Int))/\((0:Int)<=z0 - (1:Int)/\z0 - (1:Int)<=z0)/\True/\((0:Int)<=z0 - (1:Int)/\z0 - (1:Int)<z0)/\inR .i64 ((z1 - (48:Int)) % (256:Int))/\R (.bool (decide ((cdF (List.take (z0 - (1:Int)).toNat s)).1=(z1 - (48:Int)) % (256:Int)))) [])):=by kernel_rfl
variable {C:Ctx} [C.Loose]
theorem wvc(hP:C.P=Tryz.prog)(htrim:wad C 164 wee):wad C 157 wha:=by
 have _:C.Loose:=inferInstance;rintro args objs U Os vc h hvc;unfold wha at h;split at h<;>cases h;rename_i s a b;refine wad.wp0 (prg hP) [(164,.det wee)] 0 (.cons htrim .nil) (hP ▸ Tryz.func157) rfl rfl rfl ?_;rw[w04];have hm:(9223372036854775807:Nat)=maxLen:=rfl;have hlt:∀b∈([48,49,50,51,52,53,54,55,56,57]:List UInt8),UInt8.toNat b<128:=by decide
 refine wal (λh=>?_) (λh=>wal (λh'=>?_) (λh'=>?_))
 ·have h2:=of_decide_eq_true h;refine⟨⟨by omega,by omega,by omega,hlt⟩,?_,rfl⟩;simp only[wbj,h,Bool.true_or,Bool.true_and,wro]
 ·have h2:=of_decide_eq_true h';refine⟨⟨by omega,by omega,by omega,hlt⟩,?_,rfl⟩;simp only[wbj,h',Bool.or_true,Bool.true_and,wro]
 ·simp[wbj,h,h']
theorem wk4{s:List UInt8}(h:s.all wbe=true):∀k,k<=s.length->0<=wa1 s k/\wa1 s k<=27 * k
 |0,_=>by simp[wa1]
 |k+1,hk=>by
  have ih:=wk4 h k (by omega);have hd:=wj6 h k (by omega);simp only[wa1]
  rcases Int.emod_two_eq (↑s.length - ↑k) with e | e<;>rw[e]<;>omega
theorem w4m(hP:C.P=Tryz.prog)(s:List UInt8):waf C 0 36 (wah Tryz.f158 5) (wol s):=by
 have _:C.Loose:=inferInstance;rintro st Q ⟨h0,hlen,hall,hQ⟩;refine waf.mk (prg hP) [] 0 .nil [0,4,11,12] [4] [] (S_cd s) (λk=>k<=s.length) (λk=>s.length - k) 0 (zL7 _) h0 λk hk=>?_;rw[w1h];have hb:=wk4 hall k hk;refine wal (λh=>?_) (λh=>?_)
 ·have h:=of_decide_eq_true h;have hd:=wj6 hall k (by omega);have e:Int.tmod (↑s.length - ↑k) 2=(↑s.length - ↑k) % 2:=Int.tmod_eq_emod_of_nonneg (by omega);have e3:((s.getD k 0).toNat - 48:Int) % 256=(s.getD k 0).toNat - 48:=by omega
  simp only[inR,e,tN7,e3];have hs:wa1 s (k+1)=wa1 s k+(1+2 * ((↑s.length - ↑k) % 2)) * (↑(s.getD k 0).toNat - 48):=rfl
  rcases Int.emod_two_eq (↑s.length - ↑k) with e | e<;>rw[e] at hs ⊢ <;>and_intros<;>first
   |omega
   |exact⟨k+1,by rw[hs];rfl,by omega,by omega⟩
 ·have h:=of_decide_eq_false h;have hk:k=s.length:=by omega
  rw[hk];exact hQ
theorem w4l(hP:C.P=Tryz.prog)(htrim:wad C 164 wee):wad C 158 wd1:=by
 rintro args objs U Os vc h hvc;unfold wd1 at h;split at h<;>cases h;rename_i s;refine wad.wpL (prg hP) [(157,.det wha)] [(5,wol s)] 0 (.cons (wvc hP htrim) .nil) (hP ▸ Tryz.func158) rfl rfl rfl [(wah Tryz.f158 5,wol s)] (by kernel_rfl) ⟨w4m hP s,trivial⟩ ?_;rw[w1i];refine⟨by omega,wal (λh=>?_) (λh=>?_)⟩
 ·have h:wbj s 7 12=false:=by simpa using h
  simp[cdF,h]
 ·have h:wbj s 7 12=true:=by simpa using h
  have h':=h;simp only[wbj,bA7,Bool.or_eq_true,decide_eq_true_eq] at h';have hb:=wk4 h'.2 s.length (lR7 _);have e:Int.tmod (wa1 s s.length) 10=wa1 s s.length % 10:=Int.tmod_eq_emod_of_nonneg (by omega);rw[e,Int.tmod_eq_emod_of_nonneg (by omega)];refine⟨rfl,by omega,h'.2,by omega,by simp only[inR];omega,by omega,?_,rfl⟩;simp[cdF,h]
theorem wou(hP:C.P=Tryz.prog)(htrim:wad C 164 wee):wad C 139 wco:=by
 rintro args objs U Os vc h hvc;unfold wco at h;split at h<;>cases h;rename_i s;refine wad.wp0 (prg hP) [(157,.det wha),(158,.det wd1)] 0 (.cons (wvc hP htrim) (.cons (w4l hP htrim) .nil)) (hP ▸ Tryz.func139) rfl rfl rfl ?_;rw[wy1];refine⟨by omega,wal (λh=>?_) (λh=>?_)⟩
 ·have h:wbj s 8 13=false:=by simpa using h
  simp[wba,h]
 ·have h:wbj s 8 13=true:=by simpa using h
  have h':=h;simp only[wbj,bA7,Bool.or_eq_true,decide_eq_true_eq] at h';have e:(↑s.length - 1:Int).toNat=s.length - 1:=by omega
  have hd:=wj6 h'.2 (s.length - 1) (by omega);rw[e];have e2:((s.getD (s.length - 1) 0).toNat - 48:Int) % 256=(s.getD (s.length - 1) 0).toNat - 48:=by omega
  simp only[inR,e2];refine⟨by omega,by omega,trivial,by omega,by omega,?_,trivial⟩;simp[wba,h]
end Go.Eng
namespace Go.Eng
open Go.Proofs Go.RowKit
variable {C:Ctx} [C.Loose]
set_option maxRecDepth 20000
theorem nf_valw(id code brand:List UInt8)(d c a:Int)(n:Nat)(nm vl:Nat->List UInt8)(R:oR7):wpFn te [(139,.det wco),(153,.det wmi),(154,.det wg6),(155,.det wl1)] [(13,L_vw n nm vl)] 2 Tryz.f137 [.agg [.str id,.str code,.str brand,.q d,.q c,.q a,.view 2 n (wez nm vl)]] [] R=(True/\wab (!wba id) (R (.q 90) []) (code.length<4294967281/\wab (decide (wfm code<1)) (R (.q 91) []) (True/\wab (!wa6 brand) (R (.q 92) []) (True/\wab (!decide (qtyF d c a=0)) (R (.q 93) []) (wab (decide ((12:Int)<(n:Int))) (R (.q 94) []) (some (St.mk [(3,.map 0),(33,.view 2 n (wez nm vl)),(34,.q (n:Int)),(35,.q 0)] [(0,.amap (List.map (λ(p:AV×AV)=>(AV.rn (ren 0 [(65,0)]) p.1,AV.rn (ren 0 [(65,0)]) p.2)) []))] 1 [])=some (St.mk [(3,.map 0),(33,.view 2 n (wez nm vl)),(34,.q (n:Int)),(35,.q (↑0:Int))] [(0,.amap (wbk nm 0))] 1 [])/\n<=12/\(∀(i:Nat),i<n->(nm i).length<4294967281/\(vl i).length<4294967281)/\wab (wdw nm vl n) (R (.q 0) []) (R (.q 94) []))))))):=by kernel_rfl
theorem wyw(n:Nat)(nm vl:Nat->List UInt8)(k:Nat)(P:Nat->Prop)(R:eR7):wat ⟨te,[(154,.det wg6)],[],0,59,0⟩ (wau Tryz.f137 13) [3,33,34,35] [] [2] (S_vw n nm vl) P R (S_vw n nm vl k)=(letI z3:=(k:Int).toNat;letI z2:=TI.desc (TI.mk TypeDesc.string 1 16 (Value.string (ByteArray.mk #[])) false);letI z1:=R .ret (St.mk [(2,.q 94)] [] 0 []);letI z0:=(mget (wbk nm k) (.str (nm z3)));letI z4:=wcn (Option.getD z0 (zvA (.bool false)));wab (decide ((k:Int)<(n:Int))) (((0:Int)<=(k:Int)/\(k:Int)<(n:Int)/\2=2)/\True/\wab (!wa6 (nm z3)) z1 (True/\wab (!wa6 (vl z3)) z1 ((wit z2 (wbk nm k)/\.bool z4=Option.getD z0 (zvA (.bool false)))/\wab z4 z1 (wit z2 (wbk nm k)/\inR .i64 ((k:Int)+1)/\∃(i':Nat),some (St.mk [(3,.map 0),(33,.view 2 n (wez nm vl)),(34,.q (n:Int)),(35,.q ((k:Int)+1))] [(0,.amap (List.map (λ(p:AV×AV)=>(AV.rn (ren 0 [(0,0)]) p.1,AV.rn (ren 0 [(0,0)]) p.2)) (mset (wbk nm k) (.str (nm z3)) (.bool true))))] 1 [])=some (St.mk [(3,.map 0),(33,.view 2 n (wez nm vl)),(34,.q (n:Int)),(35,.q (i':Int))] [(0,.amap (wbk nm i'))] 1 [])/\P i')))) (R (.exit 1) (St.mk [] [] 0 []))):=by kernel_rfl
theorem wwo(hP:C.P=Tryz.prog)(n:Nat)(nm vl:Nat->List UInt8):waf C 0 59 (wah Tryz.f137 13) (L_vw n nm vl):=by
 rintro st Q ⟨h0,hn,hs,hQ⟩;have hR:=wb0 hQ;refine waf.mk (prg hP) [(154,.det wg6)] 0 (.cons (ws7 hP) .nil) [3,33,34,35] [] [2] (S_vw n nm vl) (λk=>k<=n/\wdw nm vl k=true) (λk=>n - k) 0 ⟨by omega,rfl⟩ h0 (λk hk=>?_);obtain⟨hkn,hok⟩:=hk;rw[wyw];have hbad:∀m,k<=m->k<m->atOK nm vl k=false->wdw nm vl m=false:=by
  intro m
  induction m with
  |zero=>intro _ h;omega
  |succ m ih=>
   intro _ h2 h3;rw[wdw]
   by_cases hkm:k=m
   ·subst hkm;rw[h3,Bool.and_false]
   ·rw[ih (by omega) (by omega) h3,Bool.false_and]
 rw[tN7];refine wag (λh1=>?_) (λh1=>?_)
 ·have hlt:k<n:=by omega
  have hfail:atOK nm vl k=false->Q .ret (St.mk [(2,.q 94)] [] 0 []):=λh=>hR.2 (hbad n hkn hlt h);have hk:=wr1 nm vl k hok;rw[wte];refine⟨⟨by omega,by omega,rfl⟩,trivial,wcl (λh2=>hfail (by unfold atOK;rw[h2];rfl)) (λh2=>⟨trivial,wcl (λh3=>hfail (by unfold atOK;rw[h3,Bool.and_false];rfl)) (λh3=>⟨⟨hk,?_⟩,?_⟩)⟩)⟩
  ·cases (List.range k).any (λi=>decide (nm i=nm k))<;>rfl
  ·cases ha:(List.range k).any (λi=>decide (nm i=nm k)) with
   |true=>exact hfail (by unfold atOK;rw[wkg,ha];simp)
   |false=>
    have hat:atOK nm vl k=true:=by unfold atOK;rw[h2,h3,wkg,ha];rfl
    refine⟨hk,by simp only[inR];omega,k+1,?_,⟨by omega,by rw[wdw,hok,hat];rfl⟩,by omega⟩;rw[w10 nm _ _ k ha,show wbk nm k++[(.str (nm k),AV.bool true)]=wbk nm (k+1) from rfl,wr0];rfl
 ·have:k=n:=by omega
  subst this;exact hR.1 hok
theorem valV_ok(hP:C.P=Tryz.prog)(hL:∀w,C.laid w->LaidW w):wad C 137 S_valV:=by
 rintro args objs U Os vc h hvc;unfold S_valV at h;split at h<;>cases h;rename_i id code brand d c a n f;obtain⟨hn,h1,h2,hs,hf⟩:=hvc;rw[hf];rw[← hf];generalize nmOf f=nm at *;generalize vlOf f=vl at *;rw[hf];unfold valF;refine wad.wpL (prg hP) [(139,.det wco),(153,.det wmi),(154,.det wg6),(155,.det wl1)] [(13,L_vw n nm vl)] 2 (.cons (wou hP (wi1 hP)) (.cons (w2k hP hL) (.cons (ws7 hP) (.cons (qty_ok hP) .nil)))) (hP ▸ Tryz.func137) rfl rfl rfl [(wah Tryz.f137 13,L_vw n nm vl)] (by kernel_rfl) ⟨wwo hP n nm vl,trivial⟩ ?_;rw[nf_valw,w2l];refine⟨trivial,wcl (λq1=>?_) (λq1=>⟨h1,wcl (λq2=>?_) (λq2=>⟨trivial,wcl (λq3=>?_) (λq3=>⟨trivial,waw (λq4=>?_) (λq4=>wag (λq5=>?_) (λq5=>⟨rfl,by omega,hs,wal (λq6=>?_) (λq6=>?_)⟩))⟩)⟩)⟩)⟩
 ·rw[q1];exact⟨rfl,rfl⟩
 ·rw[q1,q2];exact⟨rfl,rfl⟩
 ·rw[q1,q2,q3];exact⟨rfl,rfl⟩
 ·rw[q1,q2,q3,decide_eq_false q4];exact⟨rfl,rfl⟩
 ·rw[q1,q2,q3,decide_eq_true q4,decide_eq_true (show 12<n by omega)];exact⟨rfl,rfl⟩
 ·rw[q1,q2,q3,decide_eq_true q4,decide_eq_false (show ¬ 12<n by omega),q6];exact⟨rfl,rfl⟩
 ·rw[q1,q2,q3,decide_eq_true q4,decide_eq_false (show ¬ 12<n by omega),q6];exact⟨rfl,rfl⟩
end Go.Eng
