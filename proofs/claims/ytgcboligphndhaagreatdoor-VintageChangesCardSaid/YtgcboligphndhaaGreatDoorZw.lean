/- The reference's Combine: what it answers. -/
import Derived.Test.YtgcboligphndhaaGreatDoorZv
import Derived.Lib.Builder
namespace Go.Eng
def cutG(g:Nat->FL)(i:Nat):FL:=cutF (g i)
def cutT(g:Nat->RT)(i:Nat):RT:=wca (g i)
def wmr(g:Nat->FL)(n k:Nat)(F:FL)(c j:Nat):St:=⟨[(3,.own 0 k),(5,.ptr 1 0),(6,.ptr 2 0),(17,.view 7 n (waa g)),(18,.q n),(19,.q k),(43,.view 15 c (waf (atM F.ms))),(44,.q c),(45,.q j)],
 [(0,.row 49 7 k (waa (cutG g)) false),
  (1,.cells [.str F.id,.q F.ver,.q F.day,.q F.kind,.view 15 F.ms.length (waf (atM F.ms)),.view 5 F.rs.length (wah (atR F.rs)),.view 5 F.ts.length (wag (atT F.ts))] 49),
  (2,.cells [.str (F.id.take 30),.q F.ver,.q F.day,.q F.kind,.own 3 j,.nil,.nil] 49),
  (3,.row 40 15 j (waf (cutM (atM F.ms))) false)],4,[]⟩
def wo8(g:Nat->FL)(n k:Nat)(F:FL)(c:Nat):wao:=λs Q=>canonIs te 0 [3,5,6,17,18,19,43,44,45] (ownNilP 6 4 40 15 s) (wmr g n k F c 0)/\c=min F.ms.length 3/\
 Q (.exit 2) ⟨[(3,.own 0 k),(5,.ptr 1 0),(6,.ptr 2 0),(17,.view 7 n (waa g)),(18,.q n),(19,.q k)],
 [(0,.row 49 7 k (waa (cutG g)) false),
  (1,.cells [.str F.id,.q F.ver,.q F.day,.q F.kind,.view 15 F.ms.length (waf (atM F.ms)),.view 5 F.rs.length (wah (atR F.rs)),.view 5 F.ts.length (wag (atT F.ts))] 49),
  (2,.cells [.str (F.id.take 30),.q F.ver,.q F.day,.q F.kind,.own 3 (cutF F).ms.length,.nil,.nil] 49),
  (3,.row 40 15 (cutF F).ms.length (waf (atM (cutF F).ms)) false)],4,[]⟩
def wmq(g:Nat->FL)(n k:Nat)(F:FL)(c j:Nat):St:=⟨[(3,.own 0 k),(5,.ptr 1 0),(6,.ptr 2 0),(17,.view 7 n (waa g)),(18,.q n),(19,.q k),(136,.view 5 c (wah (atR F.rs))),(137,.q c),(138,.q j)],
 [(0,.row 49 7 k (waa (cutG g)) false),
  (1,.cells [.str F.id,.q F.ver,.q F.day,.q F.kind,.view 15 F.ms.length (waf (atM F.ms)),.view 5 F.rs.length (wah (atR F.rs)),.view 5 F.ts.length (wag (atT F.ts))] 49),
  (2,.cells [.str (F.id.take 30),.q F.ver,.q F.day,.q F.kind,.own 3 (cutF F).ms.length,.own 4 j,.nil] 49),
  (3,.row 40 15 (cutF F).ms.length (waf (atM (cutF F).ms)) false),(4,.row 61 5 j (wah (cutR (atR F.rs))) false)],5,[]⟩
def wo7(g:Nat->FL)(n k:Nat)(F:FL)(c:Nat):wao:=λs Q=>canonIs te 0 [3,5,6,17,18,19,136,137,138] (ownNilP 6 5 61 5 s) (wmq g n k F c 0)/\c=min F.rs.length 3/\
 Q (.exit 4) ⟨[(3,.own 0 k),(5,.ptr 1 0),(6,.ptr 2 0),(17,.view 7 n (waa g)),(18,.q n),(19,.q k)],
 [(0,.row 49 7 k (waa (cutG g)) false),
  (1,.cells [.str F.id,.q F.ver,.q F.day,.q F.kind,.view 15 F.ms.length (waf (atM F.ms)),.view 5 F.rs.length (wah (atR F.rs)),.view 5 F.ts.length (wag (atT F.ts))] 49),
  (2,.cells [.str (F.id.take 30),.q F.ver,.q F.day,.q F.kind,.own 3 (cutF F).ms.length,.own 4 (cutF F).rs.length,.nil] 49),
  (3,.row 40 15 (cutF F).ms.length (waf (atM (cutF F).ms)) false),(4,.row 61 5 (cutF F).rs.length (wah (atR (cutF F).rs)) false)],5,[]⟩
def whu(g:Nat->FL)(n k:Nat)(F:FL)(c j:Nat):St:=⟨[(3,.own 0 k),(6,.ptr 1 0),(17,.view 7 n (waa g)),(18,.q n),(19,.q k),(171,.view 5 c (wag (atT F.ts))),(172,.q c),(173,.q j)],
 [(0,.row 49 7 k (waa (cutG g)) false),
  (1,.cells [.str (F.id.take 30),.q F.ver,.q F.day,.q F.kind,.own 2 (cutF F).ms.length,.own 3 (cutF F).rs.length,.own 4 j] 49),
  (2,.row 40 15 (cutF F).ms.length (waf (atM (cutF F).ms)) false),(3,.row 61 5 (cutF F).rs.length (wah (atR (cutF F).rs)) false),(4,.row 97 5 j (wag (cutT (atT F.ts))) false)],5,[]⟩
def wo5(g:Nat->FL)(n k:Nat)(F:FL)(c:Nat):wao:=λs Q=>canonIs te 0 [3,6,17,18,19,171,172,173] (ownNilP 6 6 97 5 s) (whu g n k F c 0)/\c=min F.ts.length 3/\
 Q (.exit 6) ⟨[(3,.own 0 k),(6,.ptr 1 0),(17,.view 7 n (waa g)),(18,.q n),(19,.q k)],
 [(0,.row 49 7 k (waa (cutG g)) false),
  (1,.cells [.str (F.id.take 30),.q F.ver,.q F.day,.q F.kind,.own 2 (cutF F).ms.length,.own 3 (cutF F).rs.length,.own 4 (cutF F).ts.length] 49),
  (2,.row 40 15 (cutF F).ms.length (waf (atM (cutF F).ms)) false),(3,.row 61 5 (cutF F).rs.length (wah (atR (cutF F).rs)) false),(4,.row 97 5 (cutF F).ts.length (wag (atT (cutF F).ts)) false)],5,[]⟩
def ws6(g:Nat->FL)(n k:Nat)(F:FL)(c j:Nat):St:=⟨[(3,.own 0 k),(6,.ptr 1 0),(17,.view 7 n (waa g)),(18,.q n),(19,.q k),(171,.view 5 c (wag (atT F.ts))),(172,.q c),(173,.q j)],
 (whu g n k F c (j+1)).O,5,[]⟩
def wpa(g:Nat->FL)(n k:Nat)(F:FL)(c j:Nat):wao:=λs Q=>wke 503 (was (atB (wca (atT F.ts j)).bs)) s/\wgn 503 (rowFn 503 (was (atB (wca (atT F.ts j)).bs)) s)/\
 canonIs te 0 [3,6,17,18,19,171,172,173] (frzX 503 [567] (rowFn 503 (was (atB (wca (atT F.ts j)).bs)) s)) (ws6 g n k F c j)/\j<=100/\Q .normal (whu g n k F c (j+1))
def wms(g:Nat->FL)(n k:Nat)(F:FL):St:=⟨[(3,.own 0 k),(6,.ptr 1 0),(17,.view 7 n (waa g)),(18,.q n),(19,.q k)],
 [(0,.row 49 7 k (waa (cutG g)) false),
  (1,.cells [.str (cutF F).id,.q (cutF F).ver,.q (cutF F).day,.q (cutF F).kind,.view 15 (cutF F).ms.length (waf (atM (cutF F).ms)),.view 5 (cutF F).rs.length (wah (atR (cutF F).rs)),.view 5 (cutF F).ts.length (wag (atT (cutF F).ts))] 49)],2,[]⟩
def wf2(g:Nat->FL)(n k:Nat)(F:FL):St:=⟨[(3,.own 0 k),(6,.ptr 1 0),(17,.view 7 n (waa g)),(18,.q n),(19,.q k)],
 [(0,.row 49 7 k (waa (cutG g)) false),
  (1,.cells [.str (F.id.take 30),.q F.ver,.q F.day,.q F.kind,.own 2 (cutF F).ms.length,.own 3 (cutF F).rs.length,.own 4 (cutF F).ts.length] 49),
  (2,.row 40 15 (cutF F).ms.length (waf (atM (cutF F).ms)) false),(3,.row 61 5 (cutF F).rs.length (wah (atR (cutF F).rs)) false),(4,.row 97 5 (cutF F).ts.length (wag (atT (cutF F).ts)) false)],5,[]⟩
def wo9(g:Nat->FL)(n k:Nat)(F:FL):wao:=λs Q=>canonIs te 0 [3,6,17,18,19] s (wf2 g n k F)/\k<=100/\F=g k/\
 Q .normal ⟨[(3,.own 0 (k+1)),(17,.view 7 n (waa g)),(18,.q n),(19,.q k)],[(0,.row 49 7 (k+1) (waa (cutG g)) false)],1,[]⟩
def wmv(g:Nat->FL)(n k:Nat):St:=⟨[(3,.own 0 k),(17,.view 7 n (waa g)),(18,.q n),(19,.q k)],[(0,.row 49 7 k (waa (cutG g)) false)],1,[]⟩
def wpd(g:Nat->FL)(n:Nat):wao:=λst Q=>canonIs te 0 [3,17,18,19] (ownNil 3 49 7 st) (wmv g n 0)/\n<=6/\Q (.exit 0) ⟨[(3,.own 0 n)],[(0,.row 49 7 n (waa (cutG g)) false)],1,[]⟩
def wmu:Spec
 |[.view 7 n f],[]=>some (.view 7 (min n 6) (waa (cutG (flOf f))),[],f=waa (flOf f))
 |_,_=>none
end Go.Eng
namespace Go.Proofs
open Go.RowKit
theorem Tryz.sizeBuilder:(Tryz.prog.info? 109).map (·.size)=some 2:=by kernel_rfl
theorem Tryz.liesWords:liesAt Tryz.prog Tryz.prog.depth 111 1 0 109 1=true:=by kernel_rfl
theorem Tryz.cellsWords:Tryz.prog.cellsOf 111=2:=by kernel_rfl
theorem Tryz.und106:Tryz.prog.underlying 106=some (.pointer 109):=by kernel_rfl
theorem Tryz.und220:Tryz.prog.underlying 220=some .unsafePointer:=by kernel_rfl
set_option maxHeartbeats 1000000 in
set_option maxRecDepth 100000 in
theorem Tryz.copyCheck_used(b:Nat)(w:World)(h0:w.cell? ⟨b,0,none⟩=some (.pointer (some ⟨b,0,none⟩))):
  Calls Tryz.prog 164 #[.pointer (some ⟨b,0,none⟩)] w λe w'=>e= .returned (.tuple #[])/\w'=w:=by
 obtain⟨j,hj,_⟩:=Option.map_eq_some_iff.1 Tryz.sizeBuilder
 go_enter Tryz.func164,Tryz.ntmps164
 go_wp2
 rw[Lib.run_neq_ptr_same w _ Tryz.und106 hj]
 go_wp2
 go_end0
 exact⟨rfl,rfl⟩
set_option maxHeartbeats 1000000 in
set_option maxRecDepth 100000 in
theorem Tryz.copyCheck_fresh(b:Nat)(w:World)(h0:w.cell? ⟨b,0,none⟩=some (.pointer none))(hsh:w.shape? b=some (111,2))(hfz:w.frozen? ⟨b,0,none⟩=false):
  Calls Tryz.prog 164 #[.pointer (some ⟨b,0,none⟩)] w λe w'=>e= .returned (.tuple #[])/\w'=w.setCell ⟨b,0,none⟩ (.pointer (some ⟨b,0,none⟩)):=by
 obtain⟨j,hj,hjs⟩:=Option.map_eq_some_iff.1 Tryz.sizeBuilder
 go_enter Tryz.func164,Tryz.ntmps164
 go_wp2
 rw[Lib.run_to_unsafe w ⟨b,0,none⟩ Tryz.und106 Tryz.und220 hj (by rw[hjs];decide) hsh (Nat.zero_lt_succ 1)];simp only[Result.andThen];rw[Oper.upon_value]
 go_wp2
 rw[run_callFunc_extern Tryz.func203 (by kernel_rfl) (by kernel_rfl) (by kernel_rfl) (e:=Extern.AbiNoEscape.same) (by kernel_rfl)];rw[Lib.run_noEscape];simp only[Result.andThen];rw[Oper.upon_value]
 go_wp2
 rw[Lib.run_from_unsafe w ⟨b,0,none⟩ Tryz.und220 Tryz.und106 hj hsh (by rw[Tryz.cellsWords];exact Tryz.liesWords)];simp only[Result.andThen];rw[Oper.upon_value]
 go_wp2
 go_end0
 exact⟨rfl,rfl⟩
end Go.Proofs
namespace Go.Eng
open Go.Proofs Go.RowKit Go.Sort
variable {C:Ctx} [C.Loose]
set_option maxRecDepth 20000
theorem wxv(w:World)(k:Nat)(os:Array Obj):Below w.heap.size w (grow (w.drewN k) os):=
 ⟨rfl,rfl,rfl,by simp[grow,World.drewN],λi hi=>by
  show (w.heap++os)[i]?=_;rw[Array.getElem?_append_left hi]⟩
theorem wq1{w:World}{M:Nat->Prop}{bs:Nat->Option Hd}{v:Value}{r off:Nat}(h:V w M bs v (.ptr r off)):∃b c,v= .pointer (some ⟨b,off,none⟩)/\bs r=some (.blk b c):=by
 cases h with | ptr hb=>exact⟨_,_,rfl,hb⟩
theorem ccUsed(hP:C.P=Tryz.prog){args:List AV}{objs:List AObj}{cs:List AV}{t:TypeId}(ha:args=[.ptr 0 0])(ho:objs[0]?=some (.cells (.ptr 0 0::cs) t)):wan C 164 args objs λu O=>u= .tuple []/\O=enum 0 objs:=by
 have _:C.Loose:=inferInstance;subst ha;refine wan.quiet ⟨_,hP ▸ Tryz.func164,rfl,by decide⟩ λE bs w cargs hW hl hv=>?_;obtain⟨a,rfl⟩:=mem1 hl;have V0:=hv 0 _ _ rfl rfl;obtain⟨b,x,rfl,hx,hxV⟩:=WRep.cell hW (r:=0) (by simpa[lkL] using ho) V0 (j:=0) (u:=.ptr 0 0) rfl;obtain⟨b1,c1,rfl,hb1⟩:=wq1 hxV;obtain⟨b2,c2,e2,hb2⟩:=wq1 V0;rw[hb1] at hb2;injection hb2 with hb2;injection hb2 with e3 e4;subst e3;injection e2 with e2;injection e2 with e2;injection e2 with e2;subst e2;rw[hP];refine(Tryz.copyCheck_used b w hx).mono ?_;rintro e w' ⟨rfl,rfl⟩;exact⟨_,rfl,rfl,.tuple rfl (λj v u hv hu=>by simp at hu)⟩
theorem ccFresh(hP:C.P=Tryz.prog):wan C 164 [.ptr 0 0] [.cells [.nilptr,.nil] 111] λu O=>u= .tuple []/\O=[(0,.cells [.ptr 0 0,.nil] 111)]:=by
 have _:C.Loose:=inferInstance;refine⟨⟨_,hP ▸ Tryz.func164,rfl,by decide⟩,λE bs w cargs h1 h2 h3 hW h5 h6 h7=>?_⟩;obtain⟨a,rfl⟩:=mem1 h6;have V0:=h7 0 _ _ rfl rfl;obtain⟨b,c,vs,k1,k2,k3,k4,k5⟩:=hW.obj 0 _ rfl;obtain⟨x,y,rfl⟩:∃x y,vs=#[x,y]:=by
  have k3:vs.size=2:=k3;exact⟨vs[0],vs[1],by
   apply Array.ext
   ·simpa using k3
   ·intro i hi1 hi2
    match i,hi2 with
    |0,_=>rfl
    |1,_=>rfl⟩
 have hx:=k5 0 x .nilptr rfl rfl;have hy:=k5 1 y .nil rfl rfl
 cases hx
 cases hy;obtain⟨b',c',rfl,hb⟩:=wq1 V0;rw[k1] at hb;injection hb with hb;injection hb with e1 e2;subst e1;subst e2
 ·rw[hP];refine(Tryz.copyCheck_fresh b w (by rw[cell_of_row w b 0 _ _ (0,0) k2];rfl) (by simp[World.shape?,k2]) (by simp[World.frozen?,k2])).mono ?_;rintro e w' ⟨rfl,rfl⟩;have hm:(AObj.cells [.nilptr,.nil] 111).mut=true:=rfl;have hheap:(w.setCell ⟨b,0,none⟩ (.pointer (some ⟨b,0,none⟩))).heap[b]?=some (.cells #[.pointer (some ⟨b,0,none⟩),.slice none 0 0] 111 (0,0)):=by
   simp[World.setCell,Array.getElem?_modify,k2]
  obtain⟨g1,g2⟩:=hW.modify (x:=0) rfl hm k1 (w':=w.setCell ⟨b,0,none⟩ (.pointer (some ⟨b,0,none⟩))) (λk hk=>by simp[World.setCell,Array.getElem?_modify,Ne.symm hk]) (by simp[World.setCell]) rfl ⟨rfl,λ_=>lR7 _⟩ rfl (o:=.cells [.ptr 0 0,.nil] 111) rfl
   (λhS=>⟨b,c,_,k1,hheap,rfl,λj v hv=>by
    match j with
    |0=>obtain rfl:=oJ7 hv;rfl
    |1=>obtain rfl:=oJ7 hv;rfl
    |j+2=>simp at hv,λj v u hv hu=>by
    match j with
    |0=>obtain rfl:=oJ7 hv;obtain rfl:=oJ7 hu;exact .ptr k1
    |1=>obtain rfl:=oJ7 hv;obtain rfl:=oJ7 hu;exact .nil
    |j+2=>simp at hv⟩)
  have e2:up (lkL [AObj.cells [.nilptr,.nil] 111]) 0 (.cells [.ptr 0 0,.nil] 111)=lk [(0,.cells [.ptr 0 0,.nil] 111)]:=by
   funext i;rw[wa4]
   by_cases h:(0:Nat)=i
   ·subst h;rw[way,if_pos rfl]
   ·rw[wat _ _ _ h,if_neg h]
    cases i with
    |zero=>exact absurd rfl h
    |succ i=>simp[lkL,lk]
  rw[e2] at g2;refine⟨_,.tuple [],[(0,.cells [.ptr 0 0,.nil] 111)],bs,rfl,⟨rfl,rfl⟩,g2,.tuple rfl (λj v u hv hu=>by simp at hu),λr hr=>⟨?_,h5 r (by show 1<=r;have:1+16<=r:=hr;omega)⟩⟩;have:1+16<=r:=hr;rw[wa4,if_neg (by show ¬ 0=r;omega)];rfl
theorem cc_ok(hP:C.P=Tryz.prog):wai C 164 S_cc:=by
 rintro args objs U Os vc h hvc;unfold S_cc at h;split at h<;>simp only[sI7,pI7,reduceCtorEq] at h
 ·rename_i t;obtain⟨rfl,rfl,rfl⟩:=h;have hvc:t=_:=hvc;subst hvc;exact ccFresh hP
 ·rename_i n t t8 m f;obtain⟨rfl,rfl,rfl⟩:=h;have hvc:t=_:=hvc;subst hvc;exact ccUsed hP rfl rfl
theorem wk8(hP:C.P=Tryz.prog)(hL:∀w,C.laid w->LaidW w):wai C 134 wen:=by
 rintro args objs U Os vc h hvc;unfold wen at h;split at h<;>cases h;rename_i n;have hr:inR .i64 n:=hvc;simp only[inR] at hr;refine wan.below ⟨_,hP ▸ Tryz.func134,rfl,by decide⟩ λw M cargs hlaid _ hM hl hv=>?_;obtain⟨a,b,rfl⟩:∃a b,cargs=[a,b]:=by
  match cargs,hl with
  |[a,b],_=>exact⟨a,b,rfl⟩
 have e1:=(hv 0 _ _ rfl rfl).int_iff;have e2:=(hv 1 _ _ rfl rfl).int_iff;subst e1;subst e2;rw[hP];refine(Tryz.strconv_FormatInt_10 n (by omega) (by omega) w (hL w hlaid).pow).mono ?_;rintro e w' ⟨rfl,k,os,rfl⟩;exact⟨_,rfl,wxv _ _ _,.str (by simp)⟩
theorem wkz(hP:C.P=Tryz.prog)(hL:∀w,C.laid w->LaidW w):wai C 133 wcw:=by
 rintro args objs U Os vc h hvc;unfold wcw at h;split at h<;>cases h;rename_i n;have hr:inR .i64 n:=hvc;simp only[inR] at hr;refine wan.below ⟨_,hP ▸ Tryz.func133,rfl,by decide⟩ λw M cargs hlaid _ hM hl hv=>?_;obtain⟨a,rfl⟩:=mem1 hl;have e1:=(hv 0 _ _ rfl rfl).int_iff;subst e1;rw[hP];refine(Tryz.strconv_Itoa n (by omega) (by omega) w (hL w hlaid).pow).mono ?_;rintro e w' ⟨rfl,k,os,rfl⟩;exact⟨_,rfl,wxv _ _ _,.str (by simp)⟩
end Go.Eng
namespace Go.Eng
open Go.Proofs Go.RowKit
set_option maxRecDepth 20000
theorem w19(s:List UInt8)(R:oR7):wpFn te [] [(2,wpg s)] 0 Tryz.f75 [.str s] [] R=(letI z0:=(s.length:Int);some (St.mk [(0,.str s),(6,.q z0),(7,.q 0)] [] 0 [])=some (St.mk [(0,.str s),(6,.q z0),(7,.q (↑0:Int))] [] 0 [])/\((∀(k:Nat),k<s.length->OKat s k)->wac (decide ((1:Int)<=z0)) (R (.bool (decide (z0<=24))) []) (R (.bool false) []))/\∀(k:Nat),k<s.length->¬OKat s k->R (.bool false) []):=by kernel_rfl
theorem w18(s:List UInt8)(k:Nat)(P:Nat->Prop)(R:eR7):wau ⟨te,[],[],0,59,0⟩ (wax Tryz.f75 2) [0,6,7] [0] [2] (wm3 s) P R (wm3 s k)=(letI z6:=R .ret (St.mk [(2,.bool false)] [] 0 []);letI z5:=(s.length:Int);letI z3:=((0:Int)<=(k:Int)/\(k:Int)<z5:Prop);letI z2:=(↑(UInt8.toNat (List.getD s (k:Int).toNat (0:UInt8))):Int);letI z1:=(inR .i64 ((k:Int)+1)/\∃(i':Nat),some (St.mk [(0,.str s),(6,.q z5),(7,.q ((k:Int)+1))] [] 0 [])=some (St.mk [(0,.str s),(6,.q z5),(7,.q (i':Int))] [] 0 [])/\P i');letI z0:=(wac (decide ((k:Int)=0)) z6 (z3/\wac (!decide (z2=45)) (z3/\wac (!decide (z2=46)) z6 z1) z1));letI z4:=(z3/\wac (decide ((48:Int)<=z2)) (z3/\wac (!decide (z2<=57)) z0 z1) z0);wac (decide ((k:Int)<z5)) (z3/\wac (decide ((97:Int)<=z2)) (z3/\wac (decide (z2<=122)) z1 z4) z4) (R (.exit 0) (St.mk [(0,.str s)] [] 0 []))):=by kernel_rfl
theorem nf_cdR(s:List UInt8)(R:oR7):wpFn te [] [(5,wp8 s)] 0 Tryz.f98 [.str s] [] R=(letI z2:=R (.tuple [.q 0,.bool false]) [];letI z1:=(s.length:Int);letI z0:=(some (St.mk [(0,.str s),(4,.q 0),(16,.q z1),(17,.q 0)] [] 0 [])=some (St.mk [(0,.str s),(4,.q (wa8 s 0)),(16,.q z1),(17,.q (↑0:Int))] [] 0 [])/\s.length<=12/\wac (List.all s wbk) ((10:Int)≠(0:Int)/\inR .i64 ((10:Int) - Int.tmod (wa8 s s.length) (10:Int))/\(10:Int)≠(0:Int)/\R (.tuple [.q (Int.tmod ((10:Int) - Int.tmod (wa8 s s.length) (10:Int)) (10:Int)),.bool true]) []) z2);wac (!decide (z1=7)) (wac (!decide (z1=12)) z2 z0) z0):=by kernel_rfl
theorem w3j(s:List UInt8)(k:Nat)(P:Nat->Prop)(R:eR7):wau ⟨te,[],[],0,50,0⟩ (wax Tryz.f98 5) [0,4,16,17] [4] [2,3] (wob s) P R (wob s k)=(letI z5:=R .ret (St.mk [(2,.q 0),(3,.bool false)] [] 0 []);letI z1:=(s.length:Int);letI z2:=((0:Int)<=(k:Int)/\(k:Int)<z1:Prop);letI z0:=(↑(UInt8.toNat (List.getD s (k:Int).toNat (0:UInt8))):Int);letI z3:=(z0 - (48:Int));letI z4:=(z3 % (256:Int));wac (decide ((k:Int)<z1)) (z2/\wac (decide (z0<48)) z5 (z2/\wac (decide ((57:Int)<z0)) z5 (inR .i64 (z1 - (k:Int))/\(2:Int)≠(0:Int)/\wac (decide (Int.tmod (z1 - (k:Int)) (2:Int)=1)) (z2/\inR .i64 z4/\inR .i64 ((3:Int) * z4)/\inR .i64 (wa8 s k+3 * z4)/\inR .i64 ((k:Int)+1)/\∃(i':Nat),some (St.mk [(0,.str s),(4,.q (wa8 s k+3 * z4)),(16,.q z1),(17,.q ((k:Int)+1))] [] 0 [])=some (St.mk [(0,.str s),(4,.q (wa8 s i')),(16,.q z1),(17,.q (i':Int))] [] 0 [])/\P i') (z2/\inR .i64 z4/\inR .i64 ((1:Int) * z4)/\inR .i64 (wa8 s k+1 * z4)/\inR .i64 ((k:Int)+1)/\∃(i':Nat),some (St.mk [(0,.str s),(4,.q (wa8 s k+1 * z4)),(16,.q z1),(17,.q ((k:Int)+1))] [] 0 [])=some (St.mk [(0,.str s),(4,.q (wa8 s i')),(16,.q z1),(17,.q (i':Int))] [] 0 [])/\P i')))) (R (.exit 0) (St.mk [(4,.q (wa8 s k))] [] 0 []))):=by kernel_rfl
theorem w0u(s:List UInt8)(R:oR7):wpFn te [(98,.det weo)] [] 0 Tryz.f162 [.str s] [] R=(letI z1:=(s.length:Int);letI z3:=(z1 - (1:Int));letI z2:=(cdF (List.take z3.toNat s));letI z0:=(inR .i64 z3/\((0:Int)<=z1 - (1:Int)/\z1 - (1:Int)<=z1)/\True/\wac z2.2 (inR .i64 z3/\((0:Int)<=z1 - (1:Int)/\z1 - (1:Int)<z1)/\inR .i64 ((48:Int)+z2.1)/\inR .u8 ((48:Int)+z2.1)/\R (.bool (decide ((↑(UInt8.toNat (List.getD s z3.toNat (0:UInt8))):Int)=48+z2.1))) []) (R (.bool false) []));wac (!decide (z1=8)) (wac (!decide (z1=13)) (R (.bool false) []) z0) z0):=by kernel_rfl
variable {C:Ctx} [C.Loose]
theorem w3p(hP:C.P=Tryz.prog)(s:List UInt8)(hm:s.length<=9223372036854775806):waj C 0 59 (wal Tryz.f75 2) (wpg s):=by
 have _:C.Loose:=inferInstance;rintro st Q ⟨h0,hQ1,hQ2⟩;refine waj.mk (prg hP) [] 0 .nil [0,6,7] [0] [2] (wm3 s) (λk=>k<=s.length/\∀j,j<k->OKat s j) (λk=>s.length - k) 0 ⟨zL7 _,λj h=>by omega⟩ h0 λk ⟨hk,hall⟩=>?_;rw[w18];refine wak (λh=>?_) (λh=>?_)
 ·have hlt:k<s.length:=by omega
  have hret:¬ OKat s k->Q .ret ⟨[(2,.bool false)],[],0,[]⟩:=hQ2 k hlt;have hgo:OKat s k->∃i':Nat,some (St.mk [(0,.str s),(6,.q (s.length:Int)),(7,.q ((k:Int)+1))] [] 0 [])=some (St.mk [(0,.str s),(6,.q (s.length:Int)),(7,.q (i':Int))] [] 0 [])/\(i'<=s.length/\∀j,j<i'->OKat s j)/\s.length - i'<s.length - k:=λhok=>
   ⟨k+1,rfl,⟨by omega,λj hj=>by
    rcases Nat.lt_succ_iff_lt_or_eq.1 hj with hj | rfl
    ·exact hall j hj
    ·exact hok⟩,by omega⟩
  unfold OKat at hret hgo;simp only[tN7,inR]
  repeat' (first | (refine wak (λ_=>?_) (λ_=>?_)) | (refine wbj (λ_=>?_) (λ_=>?_)) | (refine And.intro (by omega) ?_) | fail)
  all_goals (first | exact hret (by omega) | exact hgo (by omega))
 ·exact hQ1 λj hj=>hall j (by omega)
theorem wkn(hP:C.P=Tryz.prog):wai C 75 wem:=by
 rintro args objs U Os vc h hvc;unfold wem at h;split at h<;>cases h;rename_i s;refine wai.wpL (prg hP) [] [(2,wpg s)] 0 .nil (hP ▸ Tryz.func75) rfl rfl rfl [(wal Tryz.f75 2,wpg s)] (by kernel_rfl) ⟨w3p hP s hvc,trivial⟩ ?_;rw[w19];refine⟨rfl,λhall=>wak (λh1=>⟨congrArg AV.bool ?_,rfl⟩) (λh1=>⟨congrArg AV.bool ?_,rfl⟩),λk hk hno=>⟨congrArg AV.bool ?_,rfl⟩⟩
 ·by_cases h2:s.length<=24
  ·rw[(wkp s).2 ⟨⟨by omega,h2⟩,hall⟩];exact decide_eq_true (by omega)
  ·rw[decide_eq_false (by omega)]
   cases hn:wa3 s with
   |false=>rfl
   |true=>exact absurd ((wkp s).1 hn).1.2 h2
 ·cases hn:wa3 s with
  |false=>rfl
  |true=>exact absurd ((wkp s).1 hn).1.1 (by omega)
 ·cases hn:wa3 s with
  |false=>rfl
  |true=>exact absurd (((wkp s).1 hn).2 k hk) hno
theorem w6d(hP:C.P=Tryz.prog)(s:List UInt8):waj C 0 50 (wal Tryz.f98 5) (wp8 s):=by
 have _:C.Loose:=inferInstance;rintro st Q ⟨h0,hlen,hQ⟩;have hQ:=wbr hQ;refine waj.mk (prg hP) [] 0 .nil [0,4,16,17] [4] [2,3] (wob s) (λk=>k<=s.length/\∀j,j<k->48<=(s.getD j 0).toNat/\(s.getD j 0).toNat<=57) (λk=>s.length - k) 0 ⟨zL7 _,λj h=>by omega⟩ h0 λk ⟨hk,hall⟩=>?_;rw[w3j];have hb:=wxo k hk hall;refine wak (λh=>?_) (λh=>?_)
 ·have hlt:k<s.length:=by omega
  have hret:¬ (48<=(s.getD k 0).toNat/\(s.getD k 0).toNat<=57)->Q .ret ⟨[(2,.q 0),(3,.bool false)],[],0,[]⟩:=λhno=>hQ.2 (by
   cases ha:s.all wbk with
   |false=>rfl
   |true=>exact absurd (wk1 ha k hlt) hno)
  have e:Int.tmod (↑s.length - ↑k) 2=(↑s.length - ↑k) % 2:=Int.tmod_eq_emod_of_nonneg (by omega);have hs:wa8 s (k+1)=wa8 s k+(1+2 * ((↑s.length - ↑k) % 2)) * (↑(s.getD k 0).toNat - 48):=rfl;have hgo:(48<=(s.getD k 0).toNat/\(s.getD k 0).toNat<=57)->(k+1<=s.length/\∀j,j<k+1->48<=(s.getD j 0).toNat/\(s.getD j 0).toNat<=57)/\s.length - (k+1)<s.length - k:=λhok=>
   ⟨⟨by omega,λj hj=>by
    rcases Nat.lt_succ_iff_lt_or_eq.1 hj with hj | rfl
    ·exact hall j hj
    ·exact hok⟩,by omega⟩
  simp only[tN7,inR,e];refine⟨by omega,wak (λh1=>hret (by omega)) (λh1=>⟨by omega,wak (λh2=>hret (by omega)) (λh2=>⟨by omega,by omega,?_⟩)⟩)⟩;have hgo:=hgo (by omega);have e3:((s.getD k 0).toNat - 48:Int) % 256=(s.getD k 0).toNat - 48:=by omega
  rw[e3];refine wak (λh3=>?_) (λh3=>?_)
  ·rw[h3] at hs;exact⟨by omega,by omega,by omega,by omega,by omega,k+1,by rw[hs];rfl,hgo⟩
  ·have h3:(↑s.length - ↑k:Int) % 2=0:=by omega
   rw[h3] at hs;exact⟨by omega,by omega,by omega,by omega,by omega,k+1,by rw[hs];rfl,hgo⟩
 ·have hks:k=s.length:=by omega
  rw[hks];exact hQ.1 (w63 λj hj=>hall j (by omega))
theorem cdR_ok(hP:C.P=Tryz.prog):wai C 98 weo:=by
 rintro args objs U Os vc h hvc;unfold weo at h;split at h<;>cases h;rename_i s;refine wai.wpL (prg hP) [] [(5,wp8 s)] 0 .nil (hP ▸ Tryz.func98) rfl rfl rfl [(wal Tryz.f98 5,wp8 s)] (by kernel_rfl) ⟨w6d hP s,trivial⟩ ?_;rw[nf_cdR]
 have main:(s.length=7∨s.length=12)->wac (s.all wbk) ((10:Int)≠0/\inR .i64 (10 - Int.tmod (wa8 s s.length) 10)/\(10:Int)≠0/\AV.tuple [.q (Int.tmod (10 - Int.tmod (wa8 s s.length) 10) 10),.bool true]= .tuple [.q (cdF s).1,.bool (cdF s).2]/\([]:List (Nat×AObj))=[])
   (AV.tuple [.q 0,.bool false]= .tuple [.q (cdF s).1,.bool (cdF s).2]/\([]:List (Nat×AObj))=[]):=by
  intro hl;have hd:wbp s 7 12=s.all wbk:=by
   unfold wbp
   rcases hl with h | h<;>simp[h]
  refine waz (λha=>?_) (λha=>?_)
  ·have hb:=wlu ha s.length (lR7 _);have e:Int.tmod (wa8 s s.length) 10=wa8 s s.length % 10:=Int.tmod_eq_emod_of_nonneg (by omega);rw[e,Int.tmod_eq_emod_of_nonneg (by omega)];refine⟨by omega,by simp only[inR];omega,by omega,?_,rfl⟩;simp[cdF,hd,ha]
  ·refine⟨?_,rfl⟩;simp[cdF,hd,ha]
 refine wbj (λh1=>wbj (λh2=>⟨?_,rfl⟩) (λh2=>⟨rfl,by omega,main (by omega)⟩)) (λh1=>⟨rfl,by omega,main (by omega)⟩);have hd:wbp s 7 12=false:=by unfold wbp;rw[decide_eq_false h1,decide_eq_false h2];rfl
 simp[cdF,hd]
theorem wtn(hP:C.P=Tryz.prog):wai C 162 wcv:=by
 rintro args objs U Os vc h hvc;unfold wcv at h;split at h<;>cases h;rename_i s;refine wai.wp0 (prg hP) [(98,.det weo)] 0 (.cons (cdR_ok hP) .nil) (hP ▸ Tryz.func162) rfl rfl rfl ?_;rw[w0u];have e1:∀h:s.length=8∨s.length=13,(↑s.length - 1:Int).toNat=s.length - 1:=by intro h;omega
 have hcd:=w6e (s.take (s.length - 1));have last:(s.length=8∨s.length=13)->(s.all wbk=((cdF (s.take (s.length - 1))).2 && wbk (s.getD (s.length - 1) 0))):=by
  intro hl;have h2:(cdF (s.take (s.length - 1))).2=(s.take (s.length - 1)).all wbk:=by
   have hd:wbp (s.take (s.length - 1)) 7 12=(s.take (s.length - 1)).all wbk:=by
    unfold wbp;have:(s.take (s.length - 1)).length=s.length - 1:=by simp
    rcases hl with h | h<;>simp[h]
   unfold cdF;rw[hd]
   cases (s.take (s.length - 1)).all wbk<;>rfl
  have hs:s=s.take (s.length - 1)++[s.getD (s.length - 1) 0]:=by
   have hlt:s.length - 1<s.length:=by omega
   have:=(List.take_append_drop (s.length - 1) s).symm;rw[List.drop_eq_getElem_cons hlt] at this;have e:s.getD (s.length - 1) 0=s[s.length - 1]:=by simp[List.getD,hlt]
   rw[e];have hd:List.drop (s.length - 1+1) s=[]:=List.drop_eq_nil_of_le (by omega);rw[hd] at this;exact this
  rw[h2]
  conv=>lhs;rw[hs]
  simp
 have hv:(s.length=8∨s.length=13)->wba s=((cdF (s.take (s.length - 1))).2 && decide ((s.getD (s.length - 1) 0).toNat=48+(cdF (s.take (s.length - 1))).1)):=by
  intro hl;have hd:wbp s 8 13=s.all wbk:=by
   unfold wbp
   rcases hl with h | h<;>simp[h]
  unfold wba;rw[hd,last hl]
  cases hc:(cdF (s.take (s.length - 1))).2 with
  |false=>rfl
  |true=>
   simp only[Bool.true_and]
   cases hi:wbk (s.getD (s.length - 1) 0) with
   |true=>
    refine decide_eq_decide.2 ?_;omega
   |false=>
    refine(decide_eq_false λhe=>?_).symm;simp only[wbk,Bool.and_eq_false_imp,decide_eq_true_eq,decide_eq_false_iff_not] at hi;omega
 have main:(s.length=8∨s.length=13)->wac (cdF (s.take (s.length - 1))).2 (inR .i64 (↑s.length - 1)/\(0<=(↑s.length - 1:Int)/\(↑s.length - 1:Int)<↑s.length)/\inR .i64 (48+(cdF (s.take (s.length - 1))).1)/\inR .u8 (48+(cdF (s.take (s.length - 1))).1)/\
   AV.bool (decide ((↑(s.getD (s.length - 1) 0).toNat:Int)=48+(cdF (s.take (s.length - 1))).1))= .bool (wba s)/\([]:List (Nat×AObj))=[]) (AV.bool false= .bool (wba s)/\([]:List (Nat×AObj))=[]):=by
  intro hl;rw[hv hl];refine waz (λhc=>?_) (λhc=>?_)
  ·simp only[inR,hc,Bool.true_and];exact⟨by omega,by omega,by omega,by omega,by simp⟩
  ·simp[hc]
 refine wbj (λh1=>wbj (λh2=>⟨?_,rfl⟩) (λh2=>?_)) (λh1=>?_)
 ·have hd:wbp s 8 13=false:=by unfold wbp;rw[decide_eq_false h1,decide_eq_false h2];rfl
  simp[wba,hd]
 ·have hl:s.length=8∨s.length=13:=by omega
  rw[e1 hl];exact⟨by simp only[inR];omega,by omega,trivial,main hl⟩
 ·have hl:s.length=8∨s.length=13:=by omega
  rw[e1 hl];exact⟨by simp only[inR];omega,by omega,trivial,main hl⟩
end Go.Eng
namespace Go.Eng
open Go.Proofs Go.RowKit
variable {C:Ctx} [C.Loose]
set_option maxRecDepth 20000
theorem nf_fold(n k:Int)(R:oR7):wpFn te [] [] 0 Tryz.f35 [.q n,.q k] [] R=(letI z0:=(Int.tmod (IntKind.wrap IntKind.u64 n) (IntKind.wrap IntKind.u64 (max k (1:Int))));True/\True/\IntKind.wrap IntKind.u64 (max k (1:Int))≠(0:Int)/\inR .i64 z0/\R (.q z0) []):=by kernel_rfl
theorem nf_next(n:Nat)(v:Nat->Int)(a k:Int)(R:oR7):wpFn te [] [] 0 Tryz.f42 [.ptr 0 0,.q k] [.cells [.view 1 n (wad v),.q a] 27] R=(letI z1:=([(0,.cells [.view 1 n (wad v),.q (a+1)] 27)]:oL7);letI z0:=(IntKind.wrap IntKind.u64 (max k (1:Int)));letI z3:=Int.tmod (IntKind.wrap IntKind.u64 0) z0;letI z2:=Int.tmod (IntKind.wrap IntKind.u64 (v a.toNat)) z0;wac (decide (a<(n:Int))) (((0:Int)<=a/\a<(n:Int)/\1=1)/\inR .i64 (a+1)/\True/\True/\IntKind.wrap IntKind.u64 (max k (1:Int))≠(0:Int)/\inR .i64 z2/\R (.q z2) z1) (inR .i64 (a+1)/\True/\True/\IntKind.wrap IntKind.u64 (max k (1:Int))≠(0:Int)/\inR .i64 z3/\R (.q z3) z1)):=by kernel_rfl
theorem ws8(n:Int):IntKind.wrap .u64 n=n % 18446744073709551616:=by
 show n % (2:Int) ^ 64=_;rfl
theorem wq9{k:Int}(h:1<=k/\k<=1000000)(x:Int):IntKind.wrap .u64 (max k 1)≠0/\Int.tmod (IntKind.wrap .u64 x) (IntKind.wrap .u64 (max k 1))=web x k:=by
 have e:IntKind.wrap .u64 (max k 1)=k:=by
  rw[ws8,Int.max_eq_left h.1];omega
 rw[e,ws8];have hx:0<=x % 18446744073709551616:=by omega
 rw[Int.tmod_eq_emod_of_nonneg hx];exact⟨by omega,rfl⟩
theorem fold_ok(hP:C.P=Tryz.prog):wai C 35 wnx:=by
 have _:C.Loose:=inferInstance;rintro args objs U Os vc h hvc;unfold wnx at h;split at h<;>cases h;rename_i n k;refine wai.wp0 (prg hP) [] 0 .nil (hP ▸ Tryz.func35) rfl rfl rfl ?_;rw[nf_fold];obtain⟨h1,h2⟩:=wq9 hvc n;have h3:=wi7 hvc.1 n;rw[h2];exact⟨trivial,trivial,h1,by simp only[inR];omega,rfl,rfl⟩
theorem wce(hP:C.P=Tryz.prog):wai C 42 wbd:=by
 have _:C.Loose:=inferInstance;rintro args objs U Os vc h hvc;unfold wbd at h;split at h<;>cases h;rename_i k sz n f a t;obtain⟨rfl,rfl,hf,hk,ha⟩:=hvc;rw[hf];have hv:vInt (wad (vInt f))=vInt f:=rfl;rw[hv];generalize vInt f=v at *;refine wai.wp0 (prg hP) [] 0 .nil (hP ▸ Tryz.func42) rfl rfl rfl ?_;rw[nf_next];unfold wab;refine wak (λh=>?_) (λh=>?_)
 ·obtain⟨h1,h2⟩:=wq9 hk (v a.toNat);have h3:=wi7 hk.1 (v a.toNat);rw[h2,decide_eq_true h];exact⟨⟨by omega,by omega,rfl⟩,by simp only[inR];omega,trivial,trivial,h1,by simp only[inR];omega,rfl,rfl⟩
 ·obtain⟨h1,h2⟩:=wq9 hk 0;have h3:=wi7 hk.1 0;rw[h2,decide_eq_false h];exact⟨by simp only[inR];omega,trivial,trivial,h1,by simp only[inR];omega,rfl,rfl⟩
theorem w2w(V j:Nat)(P:Nat->Prop)(R:eR7):wau ⟨te,[],[],0,39,0⟩ (wax Tryz.f43 4) [3,4,5] [4] [] (wnu V) P R (wnu V j)=(letI z0:=(↑(pw V j):Int);wac (decide ((0:Int)<=6 - (j:Int))) ((10:Int)≠(0:Int)/\inR .i64 ((48:Int)+Int.tmod z0 (10:Int))/\inR .u8 ((48:Int)+Int.tmod z0 (10:Int))/\((0:Int)<=6 - (j:Int)/\(6:Int) - (j:Int)<(↑7:Int))/\(List.length [AV.int .u8 ((48:Int)+Int.tmod z0 (10:Int))]=1/\((6:Int) - (j:Int)).toNat<7/\1=1)/\((10:Int)≠(0:Int)/\inR .i64 (Int.tdiv z0 (10:Int)))/\inR .i64 ((6:Int) - (j:Int) - (1:Int))/\∃(i':Nat),(TEq [(3,.q (Int.tdiv z0 (10:Int))),(4,.own 0 7),(5,.q ((6:Int) - (j:Int) - (1:Int)))] [(3,.q (↑(pw V i'):Int)),(4,.own 0 7),(5,.q ((6:Int) - (i':Int)))]/\wae [(0,.row 5 1 7 (λ(k:Nat)=>if k=Int.toNat ((6:Int) - (j:Int)) then [.int .u8 ((48:Int)+Int.tmod z0 (10:Int))] else [.int .u8 (bif decide (7<=k+j) then dgI V k else (0:Int))]) false)] [(0,.row 5 1 7 (λ(k:Nat)=>[.int .u8 (bif decide (7<=k+i') then dgI V k else (0:Int))]) false)])/\P i') ((∀(i:Nat),i<7->true=true)/\∃(O':oL7),wae [(0,.row 5 1 7 (λ(k:Nat)=>[.int .u8 (bif decide (7<=k+j) then dgI V k else (0:Int))]) false)] O'/\R (.exit 0) (St.mk [(4,.own 0 7)] O' 1 []))):=by kernel_rfl
theorem nf_id(n:Int)(V:Nat)(R:oR7):wpFn te [(35,.det wnx),(98,.det weo)] [(4,L_id V)] 2 Tryz.f43 [.q n] [] R=(letI z5:=(List.flatten (List.replicate (nat_lit 0) [.int .u8 0]):List AV);letI z4:=cdF (waq 7 (wbb V));letI z3:=((7<=7/\1=1)/\∀(i:Nat),i<7->isU8 (wbb V i)=true:Prop);letI z2:=1000000;letI z1:=TI.mk (TypeDesc.int IntKind.u8) 1 1 (Value.int IntKind.u8 0) false;letI z0:=(wap (TI.sz z1) (.int .u8 ((48:Int)+z4.1)::List.append [] z5));((1:Int)<=z2/\z2<=z2)/\inR .i64 (z2+web n z2)/\((0:Int)<=7/\(7:Int)<=7/\(↑(TI.bytes z1):Int) * (7:Int)<=281474976710656/\(7:Int)<=9223372036854775807)/\(TEq [(3,.q (z2+web n z2)),(4,.own 0 7),(5,.q 6)] [(3,.q (↑(pw V 0):Int)),(4,.own 0 7),(5,.q ((6:Int) - (↑0:Int)))]/\wae [(0,.row 5 1 7 (λ(_x:Nat)=>[.int .u8 0]) false)] [(0,.row 5 1 7 (λ(k:Nat)=>[.int .u8 (bif decide (7<=k+0) then dgI V k else (0:Int))]) false)])/\V<2000000/\z3/\True/\z3/\inR .i64 ((48:Int)+z4.1)/\inR .u8 ((48:Int)+z4.1)/\(1<=16777216/\1=1/\1<=9223372036854775807)/\((1<=1/\1=1)/\∀(i:Nat),i<1->isU8 (wap (TI.sz z1) (.int .u8 ((48:Int)+z4.1)::List.append [] z5) i)=true)/\(waq 7 (wbb V)).length+(waq 1 z0).length<=9223372036854775807/\R (.str (waq 7 (wbb V)++waq 1 z0)) []):=by kernel_rfl
theorem pw_step(V j:Nat):Int.tdiv (pw V j:Nat) 10=(pw V (j+1):Nat):=by
 rw[Int.tdiv_eq_ediv_of_nonneg (Int.natCast_nonneg _)];unfold pw;rw[Nat.pow_succ, ← Nat.div_div_eq_div_mul];rfl
theorem pw_le(V j:Nat):pw V j<=V:=Nat.div_le_self _ _
theorem id_loop(hP:C.P=Tryz.prog)(V:Nat):waj C 0 39 (wal Tryz.f43 4) (L_id V):=by
 have _:C.Loose:=inferInstance;rintro st Q ⟨h0,hv,hQ⟩;refine waj.mk (prg hP) [] 0 .nil [3,4,5] [4] [] (wnu V) (λj=>j<=7) (λj=>7 - j) 0 (by omega) h0 (λj hj=>?_) (λi=>⟨λ_ _=>rfl,trivial⟩);rw[w2w];have hle:=pw_le V j;have ht:Int.tmod (pw V j:Nat) 10=((pw V j % 10:Nat):Int):=by
  rw[Int.tmod_eq_emod_of_nonneg (Int.natCast_nonneg _)];rfl
 rw[ht,pw_step];have hle':=pw_le V (j+1);have hm:=Nat.mod_lt (pw V j) (show 0<10 by omega);refine wak (λh=>?_) (λh=>⟨λ_ _=>rfl,_,?_,hQ⟩)
 ·refine⟨by omega,by simp only[inR];omega,by simp only[inR];omega,⟨h,by omega⟩,⟨rfl,by omega,rfl⟩,⟨by omega,by simp only[inR];omega⟩,by simp only[inR];omega,j+1,⟨?_,⟨rfl,rfl,rfl,rfl,rfl,λk hk=>?_⟩,trivial⟩,by omega,by omega⟩
  ·rw[show (6:Int) - (j:Int) - 1=6 - ((j+1:Nat):Int) by omega];rfl
  ·dsimp only
   split
   ·rename_i e;have e':6 - k=j:=by omega
    rw[decide_eq_true (show 7<=k+(j+1) by omega)];unfold dgI;rw[e'];rfl
   ·rename_i e
    by_cases h7:7<=k+j
    ·rw[decide_eq_true h7,decide_eq_true (show 7<=k+(j+1) by omega)]
    ·rw[decide_eq_false h7,decide_eq_false (show ¬ 7<=k+(j+1) by omega)]
 ·have:j=7:=by omega
  subst this;refine⟨⟨rfl,rfl,rfl,rfl,rfl,λk hk=>?_⟩,trivial⟩;dsimp only
  rw[decide_eq_true (show 7<=k+7 by omega)];rfl
theorem wk2(hP:C.P=Tryz.prog):wai C 43 S_id:=by
 rintro args objs U Os vc h hvc;unfold S_id at h;split at h<;>cases h;rename_i n;refine wai.wpL (prg hP) [(35,.det wnx),(98,.det weo)] [(4,L_id (idV n))] 2 (.cons (fold_ok hP) (.cons (cdR_ok hP) .nil)) (hP ▸ Tryz.func43) rfl rfl rfl [(wal Tryz.f43 4,L_id (idV n))] (by kernel_rfl) ⟨id_loop hP _,trivial⟩ ?_;rw[nf_id];have hf:=wi7 (show (1:Int)<=1000000 by omega) n;have hV:((idV n:Nat):Int)=1000000+web n 1000000:=by unfold idV;omega
 have hl:=wi1 n;have hc:=wxp (id7 n);refine⟨⟨by omega,by omega⟩,by simp only[inR];omega,⟨by omega,by omega,by decide,by omega⟩,⟨?_,⟨rfl,rfl,rfl,rfl,rfl,λk hk=>?_⟩,trivial⟩,by omega,⟨⟨by omega,rfl⟩,λ_ _=>rfl⟩,trivial,⟨⟨by omega,rfl⟩,λ_ _=>rfl⟩,?_,?_,⟨by omega,rfl,by omega⟩,⟨⟨by omega,rfl⟩,λi hi=>?_⟩,?_,rfl,rfl⟩
 ·rw[← hV];show TEq [(3,.q ((idV n:Nat):Int)),(4,.own 0 7),(5,.q 6)] [(3,.q ((idV n / 1:Nat):Int)),(4,.own 0 7),(5,.q 6)];rw[Nat.div_one];rfl
 ·dsimp only
  rw[decide_eq_false (show ¬ 7<=k+0 by omega)];rfl
 ·show inR .i64 (48+(cdF (id7 n)).1);simp only[inR];omega
 ·show inR .u8 (48+(cdF (id7 n)).1);simp only[inR];omega
 ·obtain rfl:i=0:=by omega
  rfl
 ·show (id7 n).length+_<=_;rw[hl];simp[waq]
theorem w1b(s:List UInt8)(R:oR7):wpFn te [(72,.det wds)] [] 0 Tryz.f178 [.str s] [] R=((s.length<4294967281/\0<4294967281/\0<4294967281/\0<4294967281)/\R (.bool !decide (msgF (MG.mk s (0:Int) (0:Int) (VT.mk [] [] (0:Int) (0:Int) (0:Int) (0:Int) []) (DT.mk [] [] (0:Int) [] (0:Int)))=110)) []):=by kernel_rfl
theorem w0w(o p:List UInt8)(per u tv:Int)(R:oR7):wpFn te [(178,.det wmm),(160,.det wcv)] [] 0 Tryz.f145 [.agg [.str o,.str p,.q per,.q u,.q tv]] [] R=(letI z0:=R (.bool false) [];o.length<4294967281/\wac (wa3 o) (True/\wac (wba p) (wac (decide ((0:Int)<=per)) (wac (decide (per<=5999)) (wac (decide ((1:Int)<=min u tv)) (R (.bool (decide (max u tv<=1099511627776))) []) z0) z0) z0) z0) z0):=by kernel_rfl
theorem nf_sv(g:Nat->RW)(n:Nat)(R:oR7):wpFn te [(145,.det wei)] [(4,L_sv g n)] 0 Tryz.f105 [.view 5 n (wah g)] [] R=(wac (decide ((24000:Int)<(n:Int))) (R (.q 130) []) (some (St.mk [(8,.view 5 n (wah g)),(9,.q (n:Int)),(10,.q 0)] [] 0 [])=some (St.mk [(8,.view 5 n (wah g)),(9,.q (n:Int)),(10,.q (↑0:Int))] [] 0 [])/\n<=24000/\(∀(i:Nat),i<n->(g i).o.length<4294967281)/\wac (wdp g n) (R (.q 0) []) (R (.q 131) []))):=by kernel_rfl
theorem w09(g:Nat->RW)(n k:Nat)(P:Nat->Prop)(R:eR7):wau ⟨te,[(145,.det wei)],[],0,18,0⟩ (wax Tryz.f105 4) [8,9,10] [] [2] (S_sv g n) P R (S_sv g n k)=(letI z0:=(g (k:Int).toNat);wac (decide ((k:Int)<(n:Int))) (((0:Int)<=(k:Int)/\(k:Int)<(n:Int)/\5=5)/\z0.o.length<4294967281/\wac (!rowF (RW.mk z0.o z0.p z0.per z0.u z0.tv)) (R .ret (St.mk [(2,.q 131)] [] 0 [])) (inR .i64 ((k:Int)+1)/\∃(i':Nat),some (St.mk [(8,.view 5 n (wah g)),(9,.q (n:Int)),(10,.q ((k:Int)+1))] [] 0 [])=some (St.mk [(8,.view 5 n (wah g)),(9,.q (n:Int)),(10,.q (i':Int))] [] 0 [])/\P i')) (R (.exit 0) (St.mk [] [] 0 []))):=by kernel_rfl
theorem w15(n:Nat)(v:Nat->Int)(a:Int)(R:oR7):wpFn te [(42,.det wbd)] [] 0 Tryz.f80 [.ptr 0 0] [.cells [.view 1 n (wad v),.q a] 27] R=(letI z0:=vInt (wad v);(3<=16777216/\1=1/\3<=9223372036854775807)/\(27=27/\1=1/\wad v=wad z0/\((1:Int)<=3/\(3:Int)<=1000000)/\(0:Int)<=a/\a<=4611686018427387904)/\((0:Int)<=wab n z0 a (3:Int)/\wab n z0 a (3:Int)<(↑3:Int))/\((wab n z0 a (3:Int)).toNat<3/\1=1)/\R (.str (List.getD [[(111:UInt8),49],[(111:UInt8),50],[(112:UInt8)]] (wab n z0 a (3:Int)).toNat [])) [(0,.cells [.view 1 n (wad v),.q (a+1)] 27)]):=by kernel_rfl
theorem w07(n:Nat)(v:Nat->Int)(a:Int)(R:oR7):wpFn te [(42,.det wbd),(43,.det S_id)] [] 0 Tryz.f81 [.ptr 0 0] [.cells [.view 1 n (wad v),.q a] 27] R=((27=27/\1=1/\wad v=wad (vInt (wad v))/\((1:Int)<=4/\(4:Int)<=1000000)/\(0:Int)<=a/\a<=4611686018427387904)/\True/\R (.str (idF (wab n (vInt (wad v)) a (4:Int)))) [(0,.cells [.view 1 n (wad v),.q (a+1)] 27)]):=by kernel_rfl
theorem nf_trow(n:Nat)(v:Nat->Int)(a:Int)(R:oR7):wpFn te [(42,.det wbd),(80,.det wdf),(81,.det wde)] [] 0 Tryz.f37 [.ptr 0 0] [.cells [.view 1 n (wad v),.q a] 27] R=(letI z3:=(a+1+1+1+1+1);letI z2:=4611686018427387904;letI z1:=(a+1+1+1+1);letI z0:=vInt (wad v);(27=27/\1=1/\wad v=wad z0/\((1:Int)<=20/\(20:Int)<=1000000)/\(0:Int)<=a/\a<=z2)/\inR .i64 ((1:Int)+wab n z0 a (20:Int))/\(27=27/\1=1/\wad v=wad z0/\(0:Int)<=a+1/\a+1<=4611686018427387000)/\(27=27/\1=1/\wad v=wad z0/\(0:Int)<=a+1+1/\a+1+1<=4611686018427387000)/\(27=27/\1=1/\wad v=wad z0/\((1:Int)<=4/\(4:Int)<=1000000)/\(0:Int)<=a+1+1+1/\a+1+1+1<=z2)/\inR .i64 ((1440:Int)+wab n z0 (a+1+1+1) (4:Int))/\(27=27/\1=1/\wad v=wad z0/\((1:Int)<=30/\(30:Int)<=1000000)/\(0:Int)<=a+1+1+1+1/\a+1+1+1+1<=z2)/\inR .i64 ((90:Int)+wab n z0 z1 (30:Int))/\inR .i64 (((1:Int)+wab n z0 a (20:Int)) * ((90:Int)+wab n z0 z1 (30:Int)))/\(27=27/\1=1/\wad v=wad z0/\((1:Int)<=3/\(3:Int)<=1000000)/\(0:Int)<=a+1+1+1+1+1/\a+1+1+1+1+1<=z2)/\inR .i64 (((1:Int)+wab n z0 a (20:Int)) * ((90:Int)+wab n z0 z1 (30:Int))+wab n z0 z3 (3:Int))/\(True/\True)/\R (.agg [.str (outF (wab n z0 (a+1) (3:Int))),.str (idF (wab n z0 (a+1+1) (4:Int))),.q ((1440:Int)+wab n z0 (a+1+1+1) (4:Int)),.q ((1:Int)+wab n z0 a (20:Int)),.q (((1:Int)+wab n z0 a (20:Int)) * ((90:Int)+wab n z0 z1 (30:Int))+wab n z0 z3 (3:Int))]) [(0,.cells [.view 1 n (wad v),.q (a+1+1+1+1+1+1)] 27)]):=by kernel_rfl
theorem wzd(hP:C.P=Tryz.prog)(hL:∀w,C.laid w->LaidW w):wai C 178 wmm:=by
 rintro args objs U Os vc h hvc;unfold wmm at h;split at h<;>cases h;rename_i s;refine wai.wp0 (prg hP) [(72,.det wds)] 0 (.cons (wrc hP hL) .nil) (hP ▸ Tryz.func178) rfl rfl rfl ?_;rw[w1b];refine⟨⟨hvc,by omega,by omega,by omega⟩,?_,rfl⟩;unfold msgF
 cases wa3 s<;>rfl
theorem wtm(hP:C.P=Tryz.prog)(hL:∀w,C.laid w->LaidW w):wai C 145 wei:=by
 rintro args objs U Os vc h hvc;unfold wei at h;split at h<;>cases h;rename_i o p per u tv;refine wai.wp0 (prg hP) [(178,.det wmm),(160,.det wcv)] 0 (.cons (wzd hP hL) (.cons (wjy hP (wie hP)) .nil)) (hP ▸ Tryz.func145) rfl rfl rfl ?_;rw[w0w];unfold rowF wbh;dsimp only
 generalize wa3 o=b1,wba p=b2,decide (0<=per)=b3,decide (per<=5999)=b4,decide (1<=min u tv)=b5,decide (max u tv<=1099511627776)=b6;refine⟨hvc,?_⟩
 cases b1
 ·exact⟨rfl,rfl⟩
 refine⟨trivial,?_⟩
 cases b2
 ·exact⟨rfl,rfl⟩
 cases b3
 ·exact⟨rfl,rfl⟩
 cases b4
 ·exact⟨rfl,rfl⟩
 cases b5<;>exact⟨rfl,rfl⟩
theorem wx3{g:Nat->RW}{k:Nat}(h:rowF (g k)=false):∀n,k<n->wdp g n=false
 |0,hn=>by omega
 |n+1,hn=>by
  rw[wdp]
  by_cases e:k=n
  ·subst e;rw[h,Bool.and_false]
  ·rw[wx3 h n (by omega),Bool.false_and]
theorem sv_loop(hP:C.P=Tryz.prog)(hL:∀w,C.laid w->LaidW w)(g:Nat->RW)(n:Nat):waj C 0 18 (wal Tryz.f105 4) (L_sv g n):=by
 rintro st Q ⟨h0,hn,hs,hQ⟩;have hR:=wbr hQ;refine waj.mk (prg hP) [(145,.det wei)] 0 (.cons (wtm hP hL) .nil) [8,9,10] [] [2] (S_sv g n) (λk=>k<=n/\wdp g k=true) (λk=>n - k) 0 ⟨zL7 _,rfl⟩ h0 (λk hk=>?_);obtain⟨hkn,hok⟩:=hk;rw[w09,tN7];refine wak (λh1=>?_) (λh1=>?_)
 ·refine⟨⟨by omega,by omega,rfl⟩,hs k (by omega),wcb (λh2=>hR.2 (wx3 h2 n (by omega))) (λh2=>⟨by simp only[inR];omega,k+1,rfl,⟨by omega,?_⟩,by omega⟩)⟩;rw[wdp,hok];exact h2
 ·have:k=n:=by omega
  subst this;exact hR.1 hok
theorem wty(hP:C.P=Tryz.prog)(hL:∀w,C.laid w->LaidW w):wai C 105 wmi:=by
 rintro args objs U Os vc h hvc;unfold wmi at h;split at h<;>cases h;rename_i n f;obtain⟨hn,hf,hs⟩:=hvc;generalize rwOf f=g at *;subst hf;unfold svF;refine wai.wpL (prg hP) [(145,.det wei)] [(4,L_sv g n)] 0 (.cons (wtm hP hL) .nil) (hP ▸ Tryz.func105) rfl rfl rfl [(wal Tryz.f105 4,L_sv g n)] (by kernel_rfl) ⟨sv_loop hP hL g n,trivial⟩ ?_;rw[nf_sv];refine wak (λh1=>?_) (λh1=>⟨rfl,by omega,hs,waz (λh2=>?_) (λh2=>?_)⟩)
 ·rw[decide_eq_true (show 24000<n by omega)];exact⟨rfl,rfl⟩
 ·rw[decide_eq_false (show ¬ 24000<n by omega),h2];exact⟨rfl,rfl⟩
 ·rw[decide_eq_false (show ¬ 24000<n by omega),h2];exact⟨rfl,rfl⟩
theorem wg8(hP:C.P=Tryz.prog):wai C 80 wdf:=by
 rintro args objs U Os vc h hvc;unfold wdf at h;split at h<;>cases h;rename_i sz n f a t;obtain⟨rfl,rfl,hf,h1,h2⟩:=hvc;rw[hf];generalize vInt f=v;have hw:vInt (wad v)=v:=rfl;refine wai.wp0 (prg hP) [(42,.det wbd)] 0 (.cons (wce hP) .nil) (hP ▸ Tryz.func80) rfl rfl rfl ?_;rw[w15];have r:=waw (show (1:Int)<=3 by omega) n v a;exact⟨⟨by omega,rfl,by omega⟩,⟨rfl,rfl,rfl,⟨by omega,by omega⟩,by omega,by omega⟩,⟨r.1,r.2⟩,⟨by rw[hw];omega,rfl⟩,rfl,rfl⟩
theorem wg1(hP:C.P=Tryz.prog):wai C 81 wde:=by
 rintro args objs U Os vc h hvc;unfold wde at h;split at h<;>cases h;rename_i sz n f a t;obtain⟨rfl,rfl,hf,h1,h2⟩:=hvc;rw[hf];generalize vInt f=v;have hw:vInt (wad v)=v:=rfl;refine wai.wp0 (prg hP) [(42,.det wbd),(43,.det S_id)] 0 (.cons (wce hP) (.cons (wk2 hP) .nil)) (hP ▸ Tryz.func81) rfl rfl rfl ?_;rw[w07];exact⟨⟨rfl,rfl,rfl,⟨by omega,by omega⟩,by omega,by omega⟩,trivial,rfl,rfl⟩
theorem wum(n:Nat)(v:Nat->Int)(a:Int):1<=(rowV n v a).u/\(rowV n v a).u<=20/\90<=(rowV n v a).tv/\(rowV n v a).tv<=2382:=by
 have r1:=waw (show (1:Int)<=20 by omega) n v a;have r2:=waw (show (1:Int)<=30 by omega) n v (a+1+1+1+1);have r3:=waw (show (1:Int)<=3 by omega) n v (a+1+1+1+1+1);have b1:(1+wab n v a 20) * (90+wab n v (a+1+1+1+1) 30)<=20 * 119:=Int.mul_le_mul (by omega) (by omega) (by omega) (by omega);have b2:1 * 90<=(1+wab n v a 20) * (90+wab n v (a+1+1+1+1) 30):=Int.mul_le_mul (by omega) (by omega) (by omega) (by omega);unfold rowV;dsimp only
 refine⟨by omega,by omega,?_,?_⟩<;>omega
theorem wio:∀i,i<3->wa3 (List.getD [[111,49],[111,50],[112]] i [])=true/\(List.getD [[111,49],[111,50],[112]] i ([]:List UInt8)).length<=2:=by decide+kernel
theorem wqx(n:Nat)(v:Nat->Int)(a:Int):rowF (rowV n v a)=true/\(rowV n v a).o.length<=2:=by
 obtain⟨b1,b2,b3,b4⟩:=wum n v a;have r1:=waw (show (1:Int)<=3 by omega) n v (a+1);have r2:=waw (show (1:Int)<=4 by omega) n v (a+1+1+1);have ho:=wio (wab n v (a+1) 3).toNat (by omega);refine⟨?_,ho.2⟩;unfold rowF wbh;rw[show wa3 (rowV n v a).o=true from ho.1,show wba (rowV n v a).p=true from wd9 _,decide_eq_true (show 0<=(rowV n v a).per by show 0<=1440+wab n v (a+1+1+1) 4;omega),decide_eq_true (show (rowV n v a).per<=5999 by show 1440+wab n v (a+1+1+1) 4<=5999;omega),
  decide_eq_true (show 1<=min (rowV n v a).u (rowV n v a).tv by omega),decide_eq_true (show max (rowV n v a).u (rowV n v a).tv<=1099511627776 by omega)]
 rfl
theorem wqk(hP:C.P=Tryz.prog):wai C 37 wf0:=by
 rintro args objs U Os vc h hvc;unfold wf0 at h;split at h<;>cases h;rename_i sz n f a t;obtain⟨rfl,rfl,hf,h1,h2⟩:=hvc;rw[hf];generalize vInt f=v;have hw:vInt (wad v)=v:=rfl;refine wai.wp0 (prg hP) [(42,.det wbd),(80,.det wdf),(81,.det wde)] 0 (.cons (wce hP) (.cons (wg8 hP) (.cons (wg1 hP) .nil))) (hP ▸ Tryz.func37) rfl rfl rfl ?_;rw[nf_trow,hw];have r1:=waw (show (1:Int)<=20 by omega) n v a;have r2:=waw (show (1:Int)<=30 by omega) n v (a+1+1+1+1);have r3:=waw (show (1:Int)<=3 by omega) n v (a+1+1+1+1+1);have r4:=waw (show (1:Int)<=4 by omega) n v (a+1+1+1);have b1:(1+wab n v a 20) * (90+wab n v (a+1+1+1+1) 30)<=20 * 119:=Int.mul_le_mul (by omega) (by omega) (by omega) (by omega);have b2:1 * 90<=(1+wab n v a 20) * (90+wab n v (a+1+1+1+1) 30):=Int.mul_le_mul (by omega) (by omega) (by omega) (by omega);exact⟨⟨rfl,rfl,rfl,⟨by omega,by omega⟩,by omega,by omega⟩,by simp only[inR];omega,⟨rfl,rfl,rfl,by omega,by omega⟩,⟨rfl,rfl,rfl,by omega,by omega⟩,⟨rfl,rfl,rfl,⟨by omega,by omega⟩,by omega,by omega⟩,by simp only[inR];omega,⟨rfl,rfl,rfl,⟨by omega,by omega⟩,by omega,by omega⟩,by simp only[inR];omega,by simp only[inR];omega,⟨rfl,rfl,rfl,⟨by omega,by omega⟩,by omega,by omega⟩,by simp only[inR];omega,⟨trivial,trivial⟩,rfl,rfl⟩
theorem whb{α:Type}(g:Nat->α)(n:Nat):lst g (n+1)=lst g n++[g n]:=by simp[lst,List.range_succ]
theorem wrn{α:Type}{g:Nat->α}{L:List α}{n:Nat}(h:lst g n=L)(d:α):n=L.length/\∀i,i<n->g i=L.getD i d:=by
 subst h;refine⟨by simp[lst],λi hi=>?_⟩;simp[lst,hi]
theorem w1w(p:Int)(R:oR7):wpFn te [] [] 0 Tryz.f163 [.q p] [] R=(wac (decide ((0:Int)<=p)) (R (.bool (decide (p<=5999))) []) (R (.bool false) [])):=by kernel_rfl
theorem w1d(o p:List UInt8)(per:Int)(R:oR7):wpFn te [(75,.det wem),(162,.det wcv),(163,.det wmx)] [] 0 Tryz.f130 [.str o,.str p,.q per] [] R=(o.length<=9223372036854775806/\wac (wa3 o) (True/\wac (wba p) (True/\R (.bool (decide ((0:Int)<=per) && decide (per<=5999))) []) (R (.bool false) [])) (R (.bool false) [])):=by kernel_rfl
theorem nf_rowR(o p:List UInt8)(per u tv:Int)(R:oR7):wpFn te [(130,.det wek)] [] 0 Tryz.f77 [.agg [.str o,.str p,.q per,.q u,.q tv]] [] R=(letI z0:=R (.bool false) [];o.length<4294967281/\wac (wbh o p per) (wac (decide ((1:Int)<=u)) (wac (decide (u<=1099511627776)) (wac (decide ((1:Int)<=tv)) (R (.bool (decide (tv<=1099511627776))) []) z0) z0) z0) z0):=by kernel_rfl
theorem wz5(hP:C.P=Tryz.prog):wai C 163 wmx:=by
 have _:C.Loose:=inferInstance;rintro args objs U Os vc h hvc;unfold wmx at h;split at h<;>cases h;refine wai.wp0 (prg hP) [] 0 .nil (hP ▸ Tryz.func163) rfl rfl rfl ?_;rw[w1w];exact waz (λh=>by rw[h];exact⟨rfl,rfl⟩) (λh=>by rw[h];exact⟨rfl,rfl⟩)
theorem wj5(hP:C.P=Tryz.prog):wai C 130 wek:=by
 rintro args objs U Os vc h hvc;unfold wek at h;split at h<;>cases h;rename_i o p per;refine wai.wp0 (prg hP) [(75,.det wem),(162,.det wcv),(163,.det wmx)] 0 (.cons (wkn hP) (.cons (wtn hP) (.cons (wz5 hP) .nil))) (hP ▸ Tryz.func130) rfl rfl rfl ?_;rw[w1d];unfold wbh;exact⟨by omega,waz (λh1=>⟨trivial,waz (λh2=>⟨trivial,by rw[h1,h2,Bool.true_and,Bool.true_and];exact⟨rfl,rfl⟩⟩) (λh2=>by rw[h1,h2];exact⟨rfl,rfl⟩)⟩) (λh1=>by rw[h1];exact⟨rfl,rfl⟩)⟩
theorem rowR_ok(hP:C.P=Tryz.prog):wai C 77 wei:=by
 rintro args objs U Os vc h hvc;unfold wei at h;split at h<;>cases h;rename_i o p per u tv;refine wai.wp0 (prg hP) [(130,.det wek)] 0 (.cons (wj5 hP) .nil) (hP ▸ Tryz.func77) rfl rfl rfl ?_;rw[nf_rowR];have e:rowF ⟨o,p,per,u,tv⟩=(wbh o p per && (decide (1<=u) && (decide (u<=1099511627776) && (decide (1<=tv) && decide (tv<=1099511627776))))):=by
  unfold rowF;dsimp only
  rw[Bool.and_assoc];congr 1;rw[Bool.eq_iff_iff];simp only[bA7,decide_eq_true_eq];omega
 rw[e];generalize wbh o p per=b1,decide (1<=u)=b2,decide (u<=1099511627776)=b3,decide (1<=tv)=b4,decide (tv<=1099511627776)=b5;refine⟨hvc,?_⟩
 cases b1<;>cases b2<;>cases b3<;>cases b4<;>exact⟨rfl,rfl⟩
end Go.Eng
