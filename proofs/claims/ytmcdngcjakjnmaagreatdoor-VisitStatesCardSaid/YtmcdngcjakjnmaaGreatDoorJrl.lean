/- The reference of the codes: what it takes is what the parse takes. Plain. -/
import Derived.Test.YtmcdngcjakjnmaaGreatDoorJrk
import Derived.Test.YtmcdngcjakjnmaaGreatDoorProg
import Derived.KernelRfl
import Derived.HandedShaped
import Derived.ProofKit
import Derived.Lib.AtoiAll
import Derived.Lib.ItoaNum
import Derived.Lib.LaidTab
import Derived.Lib.Split
import Derived.Lib.CountLaws
namespace Go.Eng
def ownNil(d t sz:Nat)(s:St):St:=match lk s.T d with
 |some .nil=>⟨(d,.own s.nx 0)::rm d s.T,(s.nx,.row t sz 0 (λ_=>[]) false)::s.O,s.nx+1,[]⟩
 |_=>s
theorem RepS.ownNil{C:Ctx}{E:Ent}{N:Nat}{s:St}{bs:Nat->Option Hd}{a:Act}{w:World}(d t sz:Nat)(h:RepS C E N s bs a w):∃bs',RepS C E N (ownNil d t sz s) bs' a w:=by
 unfold Eng.ownNil;split
 ·rename_i hd;obtain⟨T,O,nx,dec⟩:=s;obtain⟨⟨hF,hW⟩,hnx,hm⟩:=h;have hn:=hnx nx (lR7 _);have hb0:bs nx=none:=hn.2;have hO0:lk O nx=none:=hn.1
  let bs':=up bs nx .nil
  have hbs:∀r x,bs r=some x->bs' r=some x:=λr x hx=>by
   have:nx≠r:=λe=>by subst e;rw[hb0] at hx;cases hx
   show up bs nx .nil r=some x;rw[wan _ _ _ this];exact hx
  have hbk:∀r b c,bs' r=some (.blk b c)->bs r=some (.blk b c):=λr b c hx=>by
   by_cases hr:nx=r
   ·subst hr;have:up bs nx .nil nx=some (.blk b c):=hx;rw[wao] at this;cases this
   ·have:up bs nx .nil r=some (.blk b c):=hx
    rwa [wan _ _ _ hr] at this
  have hlk:∀r o,lk ((nx,AObj.row t sz 0 (λ_=>[]) false)::O) r=some o->(r=nx/\o= .row t sz 0 (λ_=>[]) false)∨(r≠nx/\lk O r=some o):=λr o ho=>by
   rw[wat] at ho;split at ho
   ·rename_i e;have e':nx=r:=e;simp only[sI7] at ho;exact .inl ⟨e'.symm,ho.symm⟩
   ·rename_i e;exact .inr ⟨λe'=>e e'.symm,ho⟩
  have hmb:∀b,mutB (lk ((nx,AObj.row t sz 0 (λ_=>[]) false)::O)) bs' b->mutB (lk O) bs b:=by
   rintro b ⟨r,o,c,ho,hmu,hb⟩
   rcases hlk r o ho with⟨rfl,rfl⟩ | ⟨hne,ho⟩
   ·have:=hbk _ _ _ hb;rw[hb0] at this;cases this
   ·exact⟨r,o,c,ho,hmu,hbk _ _ _ hb⟩
  have hMB:∀b,MB E (lk ((nx,AObj.row t sz 0 (λ_=>[]) false)::O)) bs' b->MB E (lk O) bs b:=λb hb=>hb.imp id (hmb b);have vm:∀ {v:Value} {u:AV},V w (MB E (lk O) bs) bs v u->V w (MB E (lk ((nx,AObj.row t sz 0 (λ_=>[]) false)::O)) bs') bs' v u:=λh=>
   h.step_ (λb _ hb hb'=>hb (hMB b hb')) (λ_ _ _=>rfl) (lR7 _) _ hbs
  have hS:Step w (MB E (lk O) bs) bs w (MB E (lk ((nx,AObj.row t sz 0 (λ_=>[]) false)::O)) bs') bs':=⟨hbs,λb _ hb hb'=>hb (hMB b hb'),λ_ _ _=>rfl,lR7 _⟩;refine⟨bs',⟨⟨hF.1,hF.2.1,λi u hu=>?_⟩,?_⟩,λr hr=>?_,Nat.le_succ_of_le hm⟩
  ·have hu':lk ((d,AV.own nx 0)::rm d T) i=some u:=hu;rw[wfz,wat] at hu';split at hu'
   ·rename_i e;have e':d=i:=e;subst e';simp only[sI7] at hu';subst hu';obtain⟨v,hv,hV⟩:=hF.2.2 d _ hd
    cases hV;exact⟨_,hv,.ownnil (wao _ _ _) rfl⟩
   ·obtain⟨v,hv,hV⟩:=hF.2.2 i u hu';exact⟨v,hv,vm hV⟩
  ·exact {
    obj:=λr o ho=>by
     rcases hlk r o ho with⟨rfl,rfl⟩ | ⟨hne,ho⟩
     ·exact .inl ⟨wao _ _ _,rfl⟩
     ·exact(hW.obj r o ho).step hS λ_ _ _=>rfl
    sep:=λr r' o1 o2 b c c' h1 h2 m1 m2 b1 b2=>by
     rcases hlk r o1 h1 with⟨rfl,rfl⟩ | ⟨hne,h1⟩
     ·have:=hbk _ _ _ b1;rw[hb0] at this;cases this
     ·rcases hlk r' o2 h2 with⟨rfl,rfl⟩ | ⟨hne',h2⟩
      ·have:=hbk _ _ _ b2;rw[hb0] at this;cases this
      ·exact hW.sep r r' o1 o2 b c c' h1 h2 m1 m2 (hbk _ _ _ b1) (hbk _ _ _ b2)
    out:=λb hb=>hW.out b (hmb b hb)
    frz:=λr t' sz' n f b c ho hb hM=>by
     rcases hlk r _ ho with⟨rfl,h⟩ | ⟨hne,ho⟩
     ·cases h
     ·exact hW.frz r t' sz' n f b c ho (hbk _ _ _ hb) (hMB b hM)
    high:=λb hb=>hW.high b (hMB b hb)
    lt:=λr b c hb=>hW.lt r b c (hbk _ _ _ hb)
    outlt:=hW.outlt
    keep:=hW.keep
    old:=λb hb=>hW.old b (hmb b hb)
    size:=hW.size
    pre:=λr x hr hb=>hbs r x (hW.pre r x hr hb)
    os:=hW.os
    tape:=hW.tape
    output:=hW.output
    laid:=hW.laid
    gle:=hW.gle }
  ·have hr':nx+1<=r:=hr;obtain⟨q1,q2⟩:=hnx r (show nx<=r by omega);refine⟨?_,?_⟩
   ·show lk ((nx,AObj.row t sz 0 (λ_=>[]) false)::O) r=none;rw[wat];have:nx≠r:=by omega
    simp[this,q1]
   ·show up bs nx .nil r=none;rw[wan _ _ _ (by omega)];exact q2
 ·exact⟨bs,h⟩
theorem AWP.ownNil{C:Ctx}{m N:Nat}{c:Code}{Q:Exit->St->Prop}{s:St}(d t sz:Nat)(h:AWP C m N c Q (Eng.ownNil d t sz s)):AWP C m N c Q s:=by
 intro E hE bs a w hr;obtain⟨bs',hr'⟩:=hr.ownNil d t sz;exact h E hE bs' a w hr'
end Go.Eng
namespace Go.Eng
open Go.Proofs
abbrev oL7:=List (Nat×AObj)
abbrev tL7:=List (Nat×AV)
abbrev oR7:=AV->oL7->Prop
abbrev eR7:=Exit->St->Prop
theorem rQ7{a b c d:Nat}{e:Bool}{f:Nat->List AV}:a=a/\b=b/\c=c/\d=d/\e=e/\∀i,i<d->f i=f i:=⟨rfl,rfl,rfl,rfl,rfl,λ_ _=>rfl⟩
abbrev AV.q (x:Int):AV:=.int .i64 x
def te:TE:=[
 (0,⟨.tuple #[],1,0,.tuple #[],false⟩),
 (1,⟨.func #[] #[] false,1,8,.nilFunc,false⟩),
 (2,⟨.int .i64,1,8,.int .i64 0,false⟩),
 (3,⟨.int .i64,1,8,.int .i64 0,false⟩),
 (4,⟨.bool,1,1,.bool false,false⟩),
 (5,⟨.int .u8,1,1,.int .u8 0,false⟩),
 (6,⟨.int .u8,1,1,.int .u8 0,false⟩),
 (7, ⟨.struct #[⟨ "x", 2, 0, false, "", "runtime", 0⟩, ⟨ "y", 3, 1, false, "", "runtime", 8⟩, ⟨ "signed", 4, 2, false, "", "runtime", 16⟩, ⟨ "code", 6, 3, false, "", "runtime", 17⟩], 4, 24, .agg #[.int .i64 0, .int .i64 0, .bool false, .int .u8 0], true⟩),
 (8, ⟨.struct #[⟨ "x", 2, 0, false, "", "runtime", 0⟩, ⟨ "y", 3, 1, false, "", "runtime", 8⟩, ⟨ "signed", 4, 2, false, "", "runtime", 16⟩, ⟨ "code", 6, 3, false, "", "runtime", 17⟩], 4, 24, .agg #[.int .i64 0, .int .i64 0, .bool false, .int .u8 0], true⟩),
 (9,⟨.string,1,16,.string { data:=#[] },false⟩),
 (10,⟨.string,1,16,.string { data:=#[] },false⟩),
 (11,⟨.string,1,16,.string { data:=#[] },false⟩),
 (12,⟨.int .u64,1,8,.int .u64 0,false⟩),
 (13, ⟨.struct #[⟨ "msg", 9, 0, false, "", "runtime", 0⟩, ⟨ "addr", 12, 1, false, "", "runtime", 16⟩], 2, 24, .agg #[.string { data := #[] }, .int .u64 0], false⟩),
 (14, ⟨.struct #[⟨ "msg", 9, 0, false, "", "runtime", 0⟩, ⟨ "addr", 12, 1, false, "", "runtime", 16⟩], 2, 24, .agg #[.string { data := #[] }, .int .u64 0], false⟩),
 (15,⟨.pointer 249,1,8,.pointer none,false⟩),
 (16,⟨.pointer 252,1,8,.pointer none,false⟩),
 (17,⟨.pointer 260,1,8,.pointer none,false⟩),
 (18, ⟨.struct #[⟨ "typ", 17, 0, false, "", "internal/runtime/maps", 0⟩], 1, 8, .agg #[.pointer none], false⟩),
 (19, ⟨.struct #[⟨ "typ", 17, 0, false, "", "internal/runtime/maps", 0⟩], 1, 8, .agg #[.pointer none], false⟩),
 (20,⟨.interface #[],1,16,.nilIface,false⟩),
 (21,⟨.int .i32,1,4,.int .i32 0,false⟩),
 (22,⟨.slice 47,1,24,.slice none 0 0,false⟩),
 (23,⟨.slice 3,1,24,.slice none 0 0,false⟩),
 (24,⟨.pointer 26,1,8,.pointer none,false⟩),
 (25, ⟨.struct #[⟨ "L", 23, 0, false, "", "", 0⟩, ⟨ "At", 3, 1, false, "", "", 24⟩], 2, 32, .agg #[.slice none 0 0, .int .i64 0], true⟩),
 (26, ⟨.struct #[⟨ "L", 23, 0, false, "", "", 0⟩, ⟨ "At", 3, 1, false, "", "", 24⟩], 2, 32, .agg #[.slice none 0 0, .int .i64 0], true⟩),
 (27,⟨.func #[22] #[22] false,1,8,.nilFunc,false⟩),
 (29,⟨.func #[3] #[22] false,1,8,.nilFunc,false⟩),
 (30,⟨.slice 22,1,24,.slice none 0 0,false⟩),
 (32,⟨.slice 41,1,24,.slice none 0 0,false⟩),
 (33,⟨.func #[22] #[32] false,1,8,.nilFunc,false⟩),
 (34,⟨.func #[] #[4] false,1,8,.nilFunc,false⟩),
 (36,⟨.slice 124,1,24,.slice none 0 0,false⟩),
 (37,⟨.slice 124,1,24,.slice none 0 0,false⟩),
 (39, ⟨.struct #[⟨ "Neg", 4, 0, false, "", "", 0⟩, ⟨ "Num", 37, 1, false, "", "", 8⟩, ⟨ "Den", 37, 2, false, "", "", 32⟩], 3, 56, .agg #[.bool false, .slice none 0 0, .slice none 0 0], true⟩),
 (40, ⟨.struct #[⟨ "Outlet", 9, 0, false, "", "", 0⟩, ⟨ "Product", 9, 1, false, "", "", 16⟩, ⟨ "Period", 3, 2, false, "", "", 32⟩, ⟨ "Price", 39, 3, false, "", "", 40⟩], 6, 96, .agg #[.string { data := #[] }, .string { data := #[] }, .int .i64 0, .bool false, .slice none 0 0, .slice none 0 0], true⟩),
 (41, ⟨.struct #[⟨ "Outlet", 9, 0, false, "", "", 0⟩, ⟨ "Product", 9, 1, false, "", "", 16⟩, ⟨ "Period", 3, 2, false, "", "", 32⟩, ⟨ "Price", 39, 3, false, "", "", 40⟩], 6, 96, .agg #[.string { data := #[] }, .string { data := #[] }, .int .i64 0, .bool false, .slice none 0 0, .slice none 0 0], true⟩),
 (42, ⟨.struct #[⟨ "Outlet", 9, 0, false, "", "", 0⟩, ⟨ "Product", 9, 1, false, "", "", 16⟩, ⟨ "Period", 3, 2, false, "", "", 32⟩, ⟨ "Day", 3, 3, false, "", "", 40⟩, ⟨ "Status", 3, 4, false, "", "", 48⟩, ⟨ "Price", 2, 5, false, "", "", 56⟩, ⟨ "Replacement", 9, 6, false, "", "", 64⟩], 7, 80, .agg #[.string { data := #[] }, .string { data := #[] }, .int .i64 0, .int .i64 0, .int .i64 0, .int .i64 0, .string { data := #[] }], true⟩),
 (43, ⟨.struct #[⟨ "Outlet", 9, 0, false, "", "", 0⟩, ⟨ "Product", 9, 1, false, "", "", 16⟩, ⟨ "Period", 3, 2, false, "", "", 32⟩, ⟨ "Day", 3, 3, false, "", "", 40⟩, ⟨ "Status", 3, 4, false, "", "", 48⟩, ⟨ "Price", 2, 5, false, "", "", 56⟩, ⟨ "Replacement", 9, 6, false, "", "", 64⟩], 7, 80, .agg #[.string { data := #[] }, .string { data := #[] }, .int .i64 0, .int .i64 0, .int .i64 0, .int .i64 0, .string { data := #[] }], true⟩),
 (44, ⟨.struct #[⟨ "Outlet", 9, 0, false, "", "", 0⟩, ⟨ "Product", 9, 1, false, "", "", 16⟩, ⟨ "Period", 3, 2, false, "", "", 32⟩, ⟨ "Device", 9, 3, false, "", "", 40⟩, ⟨ "Number", 3, 4, false, "", "", 56⟩], 5, 64, .agg #[.string { data := #[] }, .string { data := #[] }, .int .i64 0, .string { data := #[] }, .int .i64 0], true⟩),
 (45, ⟨.struct #[⟨ "Outlet", 9, 0, false, "", "", 0⟩, ⟨ "Product", 9, 1, false, "", "", 16⟩, ⟨ "Period", 3, 2, false, "", "", 32⟩, ⟨ "Device", 9, 3, false, "", "", 40⟩, ⟨ "Number", 3, 4, false, "", "", 56⟩], 5, 64, .agg #[.string { data := #[] }, .string { data := #[] }, .int .i64 0, .string { data := #[] }, .int .i64 0], true⟩),
 (46, ⟨.struct #[⟨ "Device", 9, 0, false, "", "", 0⟩, ⟨ "Sequence", 3, 1, false, "", "", 16⟩, ⟨ "Kind", 3, 2, false, "", "", 24⟩, ⟨ "Visit", 43, 3, false, "", "", 32⟩, ⟨ "Decision", 45, 10, false, "", "", 112⟩], 15, 176, .agg #[.string { data := #[] }, .int .i64 0, .int .i64 0, .string { data := #[] }, .string { data := #[] }, .int .i64 0, .int .i64 0, .int .i64 0, .int .i64 0, .string { data := #[] }, .string { data := #[] }, .string { data := #[] }, .int .i64 0, .string { data := #[] }, .int .i64 0], true⟩),
 (47, ⟨.struct #[⟨ "Device", 9, 0, false, "", "", 0⟩, ⟨ "Sequence", 3, 1, false, "", "", 16⟩, ⟨ "Kind", 3, 2, false, "", "", 24⟩, ⟨ "Visit", 43, 3, false, "", "", 32⟩, ⟨ "Decision", 45, 10, false, "", "", 112⟩], 15, 176, .agg #[.string { data := #[] }, .int .i64 0, .int .i64 0, .string { data := #[] }, .string { data := #[] }, .int .i64 0, .int .i64 0, .int .i64 0, .int .i64 0, .string { data := #[] }, .string { data := #[] }, .string { data := #[] }, .int .i64 0, .string { data := #[] }, .int .i64 0], true⟩),
 (48,⟨.tuple #[43,3],1,0,.tuple #[.agg #[.string { data:=#[] },.string { data:=#[] },.int .i64 0,.int .i64 0,.int .i64 0,.int .i64 0,.string { data:=#[] }],.int .i64 0],false⟩),
 (49,⟨.func #[22,9,9,3] #[43,3] false,1,8,.nilFunc,false⟩),
 (50,⟨.func #[39,39] #[4] false,1,8,.nilFunc,false⟩),
 (51,⟨.func #[2] #[39] false,1,8,.nilFunc,false⟩),
 (52,⟨.func #[23] #[4] false,1,8,.nilFunc,false⟩),
 (53,⟨.slice 43,1,24,.slice none 0 0,false⟩),
 (54,⟨.func #[22] #[53] false,1,8,.nilFunc,false⟩),
 (55,⟨.func #[53,53] #[4] false,1,8,.nilFunc,false⟩),
 (56,⟨.func #[22,9,9] #[53] false,1,8,.nilFunc,false⟩),
 (57,⟨.func #[3] #[9] false,1,8,.nilFunc,false⟩),
 (59,⟨.func #[3] #[3] false,1,8,.nilFunc,false⟩),
 (60,⟨.slice 9,1,24,.slice none 0 0,false⟩),
 (61,⟨.func #[22,9,9] #[60] false,1,8,.nilFunc,false⟩),
 (63,⟨.func #[] #[43] false,1,8,.nilFunc,false⟩),
 (64, ⟨.struct #[⟨ "Kind", 3, 0, false, "", "", 0⟩, ⟨ "Since", 3, 1, false, "", "", 8⟩, ⟨ "Replacement", 9, 2, false, "", "", 16⟩], 3, 32, .agg #[.int .i64 0, .int .i64 0, .string { data := #[] }], true⟩),
 (65, ⟨.struct #[⟨ "Kind", 3, 0, false, "", "", 0⟩, ⟨ "Since", 3, 1, false, "", "", 8⟩, ⟨ "Replacement", 9, 2, false, "", "", 16⟩], 3, 32, .agg #[.int .i64 0, .int .i64 0, .string { data := #[] }], true⟩),
 (66,⟨.func #[53,3] #[65] false,1,8,.nilFunc,false⟩),
 (67,⟨.func #[53,3,23] #[4] false,1,8,.nilFunc,false⟩),
 (68,⟨.func #[] #[47] false,1,8,.nilFunc,false⟩),
 (69,⟨.map 78 22,1,8,.map none,false⟩),
 (70,⟨.slice 78,1,24,.slice none 0 0,false⟩),
 (72, ⟨.struct #[⟨ "messages", 69, 0, false, "", "priceoffice/visit", 0⟩, ⟨ "visited", 70, 1, false, "", "priceoffice/visit", 8⟩], 2, 32, .agg #[.map none, .slice none 0 0], true⟩),
 (73,⟨.func #[22] #[72] false,1,8,.nilFunc,false⟩),
 (74,⟨.map 79 3,1,8,.map none,false⟩),
 (75,⟨.map 78 2,1,8,.map none,false⟩),
 (76,⟨.map 78 4,1,8,.map none,false⟩),
 (77, ⟨.struct #[⟨ "outlet", 9, 0, false, "", "priceoffice/visit", 0⟩, ⟨ "product", 9, 1, false, "", "priceoffice/visit", 16⟩, ⟨ "period", 3, 2, false, "", "priceoffice/visit", 32⟩], 3, 40, .agg #[.string { data := #[] }, .string { data := #[] }, .int .i64 0], true⟩),
 (78, ⟨.struct #[⟨ "outlet", 9, 0, false, "", "priceoffice/visit", 0⟩, ⟨ "product", 9, 1, false, "", "priceoffice/visit", 16⟩, ⟨ "period", 3, 2, false, "", "priceoffice/visit", 32⟩], 3, 40, .agg #[.string { data := #[] }, .string { data := #[] }, .int .i64 0], true⟩),
 (79,⟨.array 2 9,2,32,.agg #[.string { data:=#[] },.string { data:=#[] }],false⟩),
 (80,⟨.func #[78] #[43,3] false,1,8,.nilFunc,false⟩),
 (81,⟨.tuple #[3,4],1,0,.tuple #[.int .i64 0,.bool false],false⟩),
 (82,⟨.func #[43] #[4] false,1,8,.nilFunc,false⟩),
 (84,⟨.func #[78,78] #[3] false,1,8,.nilFunc,false⟩),
 (90,⟨.func #[53,43] #[4] false,1,8,.nilFunc,false⟩),
 (92,⟨.func #[22,9,9,3] #[22] false,1,8,.nilFunc,false⟩),
 (94,⟨.func #[2] #[37] false,1,8,.nilFunc,false⟩),
 (97,⟨.slice 5,1,24,.slice none 0 0,false⟩),
 (100,⟨.func #[47] #[4] false,1,8,.nilFunc,false⟩),
 (102, ⟨.struct #[⟨ "Device", 9, 0, false, "", "", 0⟩, ⟨ "Sequence", 3, 1, false, "", "", 16⟩], 2, 24, .agg #[.string { data := #[] }, .int .i64 0], true⟩),
 (103, ⟨.struct #[⟨ "Device", 9, 0, false, "", "", 0⟩, ⟨ "Sequence", 3, 1, false, "", "", 16⟩], 2, 24, .agg #[.string { data := #[] }, .int .i64 0], true⟩),
 (105,⟨.int .u64,1,8,.int .u64 0,false⟩),
 (108,⟨.func #[] #[9] false,1,8,.nilFunc,false⟩),
 (112,⟨.map 103 4,1,8,.map none,false⟩),
 (113,⟨.slice 103,1,24,.slice none 0 0,false⟩),
 (117,⟨.int .u64,1,8,.int .u64 0,false⟩),
 (124,⟨.int .u32,1,4,.int .u32 0,false⟩),
 (126,⟨.map 103 3,1,8,.map none,false⟩),
 (132,⟨.int .i64,1,8,.int .i64 0,false⟩),
 (135,⟨.func #[47,47] #[3] false,1,8,.nilFunc,false⟩),
 (138,⟨.int .i64,1,8,.int .i64 0,false⟩),
 (141,⟨.func #[70,3,3,84] #[4] false,1,8,.nilFunc,false⟩),
 (143,⟨.func #[70,3,3,3,84] #[3,4] false,1,8,.nilFunc,false⟩),
 (148,⟨.func #[9] #[4] false,1,8,.nilFunc,false⟩),
 (152,⟨.int .u64,1,8,.int .u64 0,false⟩),
 (156,⟨.pointer 3,1,8,.pointer none,false⟩),
 (161, ⟨.struct #[⟨ "Dimension", 3, 0, false, "", "", 0⟩, ⟨ "Count", 3, 1, false, "", "", 8⟩, ⟨ "Amount", 2, 2, false, "", "", 16⟩], 3, 24, .agg #[.int .i64 0, .int .i64 0, .int .i64 0], true⟩),
 (162,⟨.slice 179,1,24,.slice none 0 0,false⟩),
 (164, ⟨.struct #[⟨ "ID", 9, 0, false, "", "", 0⟩, ⟨ "Code", 9, 1, false, "", "", 16⟩, ⟨ "Brand", 9, 2, false, "", "", 32⟩, ⟨ "Size", 161, 3, false, "", "", 48⟩, ⟨ "Attributes", 162, 6, false, "", "", 72⟩], 7, 96, .agg #[.string { data := #[] }, .string { data := #[] }, .string { data := #[] }, .int .i64 0, .int .i64 0, .int .i64 0, .slice none 0 0], true⟩),
 (167,⟨.func #[22,3,3,135] #[3,138] false,1,8,.nilFunc,false⟩),
 (172,⟨.pointer 152,1,8,.pointer none,false⟩),
 (177,⟨.map 9 4,1,8,.map none,false⟩),
 (178, ⟨.struct #[⟨ "Name", 9, 0, false, "", "", 0⟩, ⟨ "Value", 9, 1, false, "", "", 16⟩], 2, 32, .agg #[.string { data := #[] }, .string { data := #[] }], true⟩),
 (179, ⟨.struct #[⟨ "Name", 9, 0, false, "", "", 0⟩, ⟨ "Value", 9, 1, false, "", "", 16⟩], 2, 32, .agg #[.string { data := #[] }, .string { data := #[] }], true⟩),
 (187,⟨.func #[9,21] #[4] false,1,8,.nilFunc,false⟩),
 (188,⟨.func #[21] #[4] false,1,8,.nilFunc,false⟩),
 (189,⟨.func #[22,3,3,156,135] #[3,3] false,1,8,.nilFunc,false⟩),
 (192, ⟨.interface #[("Error", 108)], 1, 16, .nilIface, false⟩),
 (203,⟨.pointer 199,1,8,.pointer none,false⟩),
 (215,⟨.int .i64,1,8,.int .i64 0,false⟩),
 (218,⟨.pointer 225,1,8,.pointer none,false⟩),
 (225, ⟨.struct #[⟨ "Func", 9, 0, false, "", "", 0⟩, ⟨ "Num", 9, 1, false, "", "", 16⟩, ⟨ "Err", 192, 2, false, "", "", 32⟩], 3, 48, .agg #[.string { data := #[] }, .string { data := #[] }, .nilIface], false⟩),
 (230, ⟨.struct #[⟨ "lo", 5, 0, false, "", "unicode/utf8", 0⟩, ⟨ "hi", 5, 1, false, "", "unicode/utf8", 1⟩], 2, 2, .agg #[.int .u8 0, .int .u8 0], true⟩),
 (231,⟨.array 16 230,32,32,.agg #[.int .u8 0,.int .u8 0,.int .u8 0,.int .u8 0,.int .u8 0,.int .u8 0,.int .u8 0,.int .u8 0,.int .u8 0,.int .u8 0,.int .u8 0,.int .u8 0,.int .u8 0,.int .u8 0,.int .u8 0,.int .u8 0,.int .u8 0,.int .u8 0,.int .u8 0,.int .u8 0,.int .u8 0,.int .u8 0,.int .u8 0,.int .u8 0,.int .u8 0,.int .u8 0,.int .u8 0,.int .u8 0,.int .u8 0,.int .u8 0,.int .u8 0,.int .u8 0],false⟩),
 (233,⟨.pointer 5,1,8,.pointer none,false⟩),
 (234,⟨.pointer 236,1,8,.pointer none,false⟩),
 (236, ⟨.struct #[⟨ "s", 9, 0, false, "", "errors", 0⟩], 1, 16, .agg #[.string { data := #[] }], true⟩),
 (237,⟨.array 24 5,24,24,.agg #[.int .u8 0,.int .u8 0,.int .u8 0,.int .u8 0,.int .u8 0,.int .u8 0,.int .u8 0,.int .u8 0,.int .u8 0,.int .u8 0,.int .u8 0,.int .u8 0,.int .u8 0,.int .u8 0,.int .u8 0,.int .u8 0,.int .u8 0,.int .u8 0,.int .u8 0,.int .u8 0,.int .u8 0,.int .u8 0,.int .u8 0,.int .u8 0],false⟩),
 (244,⟨.array 20 105,20,160,.agg #[.int .u64 0,.int .u64 0,.int .u64 0,.int .u64 0,.int .u64 0,.int .u64 0,.int .u64 0,.int .u64 0,.int .u64 0,.int .u64 0,.int .u64 0,.int .u64 0,.int .u64 0,.int .u64 0,.int .u64 0,.int .u64 0,.int .u64 0,.int .u64 0,.int .u64 0,.int .u64 0],false⟩),
 (245,⟨.array 65 5,65,65,.agg ([.int .u8 0,.int .u8 0,.int .u8 0,.int .u8 0,.int .u8 0,.int .u8 0,.int .u8 0,.int .u8 0,.int .u8 0,.int .u8 0,.int .u8 0,.int .u8 0,.int .u8 0,.int .u8 0,.int .u8 0,.int .u8 0,.int .u8 0,.int .u8 0,.int .u8 0,.int .u8 0,.int .u8 0,.int .u8 0,.int .u8 0,.int .u8 0,.int .u8 0,.int .u8 0,.int .u8 0,.int .u8 0,.int .u8 0,.int .u8 0,.int .u8 0,.int .u8 0].append [.int .u8 0,.int .u8 0,.int .u8 0,.int .u8 0,.int .u8 0,.int .u8 0,.int .u8 0,.int .u8 0,.int .u8 0,.int .u8 0,.int .u8 0,.int .u8 0,.int .u8 0,.int .u8 0,.int .u8 0,.int .u8 0,.int .u8 0,.int .u8 0,.int .u8 0,.int .u8 0,.int .u8 0,.int .u8 0,.int .u8 0,.int .u8 0,.int .u8 0,.int .u8 0,.int .u8 0,.int .u8 0,.int .u8 0,.int .u8 0,.int .u8 0,.int .u8 0,.int .u8 0]).toArray,false⟩),
 (246,⟨.array 32 5,32,32,.agg #[.int .u8 0,.int .u8 0,.int .u8 0,.int .u8 0,.int .u8 0,.int .u8 0,.int .u8 0,.int .u8 0,.int .u8 0,.int .u8 0,.int .u8 0,.int .u8 0,.int .u8 0,.int .u8 0,.int .u8 0,.int .u8 0,.int .u8 0,.int .u8 0,.int .u8 0,.int .u8 0,.int .u8 0,.int .u8 0,.int .u8 0,.int .u8 0,.int .u8 0,.int .u8 0,.int .u8 0,.int .u8 0,.int .u8 0,.int .u8 0,.int .u8 0,.int .u8 0],false⟩),
 (247,⟨.array 64 5,64,64,.agg #[.int .u8 0,.int .u8 0,.int .u8 0,.int .u8 0,.int .u8 0,.int .u8 0,.int .u8 0,.int .u8 0,.int .u8 0,.int .u8 0,.int .u8 0,.int .u8 0,.int .u8 0,.int .u8 0,.int .u8 0,.int .u8 0,.int .u8 0,.int .u8 0,.int .u8 0,.int .u8 0,.int .u8 0,.int .u8 0,.int .u8 0,.int .u8 0,.int .u8 0,.int .u8 0,.int .u8 0,.int .u8 0,.int .u8 0,.int .u8 0,.int .u8 0,.int .u8 0,.int .u8 0,.int .u8 0,.int .u8 0,.int .u8 0,.int .u8 0,.int .u8 0,.int .u8 0,.int .u8 0,.int .u8 0,.int .u8 0,.int .u8 0,.int .u8 0,.int .u8 0,.int .u8 0,.int .u8 0,.int .u8 0,.int .u8 0,.int .u8 0,.int .u8 0,.int .u8 0,.int .u8 0,.int .u8 0,.int .u8 0,.int .u8 0,.int .u8 0,.int .u8 0,.int .u8 0,.int .u8 0,.int .u8 0,.int .u8 0,.int .u8 0,.int .u8 0],false⟩),
 (249, ⟨.struct #[⟨ "_interface", 17, 0, false, "", "runtime", 0⟩, ⟨ "concrete", 17, 1, false, "", "runtime", 8⟩, ⟨ "asserted", 17, 2, false, "", "runtime", 16⟩, ⟨ "missingMethod", 9, 3, false, "", "runtime", 24⟩], 4, 40, .agg #[.pointer none, .pointer none, .pointer none, .string { data := #[] }], false⟩),
 (250,⟨.array 0 16,0,0,.agg #[],false⟩),
 (252, ⟨.struct #[⟨ "_", 250, 0, false, "", "runtime", 0⟩], 0, 0, .agg #[], false⟩),
 (254,⟨.int .u8,1,1,.int .u8 0,false⟩),
 (255,⟨.int .u8,1,1,.int .u8 0,false⟩),
 (256,⟨.func #[261,261] #[4] false,1,8,.nilFunc,false⟩),
 (257,⟨.int .i32,1,4,.int .i32 0,false⟩),
 (258,⟨.int .i32,1,4,.int .i32 0,false⟩),
 (260, ⟨.struct #[⟨ "Size_", 12, 0, false, "", "", 0⟩, ⟨ "PtrBytes", 12, 1, false, "", "", 8⟩, ⟨ "Hash", 124, 2, false, "", "", 16⟩, ⟨ "TFlag", 254, 3, false, "", "", 20⟩, ⟨ "Align_", 5, 4, false, "", "", 21⟩, ⟨ "FieldAlign_", 5, 5, false, "", "", 22⟩, ⟨ "Kind_", 255, 6, false, "", "", 23⟩, ⟨ "Equal", 256, 7, false, "", "", 24⟩, ⟨ "GCData", 233, 8, false, "", "", 32⟩, ⟨ "Str", 257, 9, false, "", "", 40⟩, ⟨ "PtrToThis", 258, 10, false, "", "", 44⟩], 11, 48, .agg #[.int .u64 0, .int .u64 0, .int .u32 0, .int .u8 0, .int .u8 0, .int .u8 0, .int .u8 0, .nilFunc, .pointer none, .int .i32 0, .int .i32 0], false⟩),
 (261,⟨.unsafePointer,1,8,.pointer none,false⟩)]
theorem te_ok:TE.ok Tryz.prog te:=by
 refine TE.ok_cons Tryz.underlying0 ⟨_,Tryz.type0,rfl,rfl,rfl⟩ nofun ?_;refine TE.ok_cons Tryz.underlying1 ⟨_,Tryz.type1,rfl,rfl,rfl⟩ nofun ?_;refine TE.ok_cons Tryz.underlying2 ⟨_,Tryz.type2,rfl,rfl,rfl⟩ nofun ?_;refine TE.ok_cons Tryz.underlying3 ⟨_,Tryz.type3,rfl,rfl,rfl⟩ nofun ?_;refine TE.ok_cons Tryz.underlying4 ⟨_,Tryz.type4,rfl,rfl,rfl⟩ nofun ?_;refine TE.ok_cons Tryz.underlying5 ⟨_,Tryz.type5,rfl,rfl,rfl⟩ nofun ?_;refine TE.ok_cons Tryz.underlying6 ⟨_,Tryz.type6,rfl,rfl,rfl⟩ nofun ?_;refine TE.ok_cons Tryz.underlying7 ⟨Tryz.t7,Tryz.type7,rfl,rfl,rfl⟩ (λ_=>⟨Tryz.stoodInHeld7,Tryz.eqGuardType7,λfs h f hf=>by cases h;revert f;decide⟩) ?_;refine TE.ok_cons Tryz.underlying8 ⟨Tryz.t8,Tryz.type8,rfl,rfl,rfl⟩ (λ_=>⟨Tryz.stoodInHeld8,Tryz.eqGuardType8,λfs h f hf=>by cases h;revert f;decide⟩) ?_;refine TE.ok_cons Tryz.underlying9 ⟨_,Tryz.type9,rfl,rfl,rfl⟩ nofun ?_;refine TE.ok_cons Tryz.underlying10 ⟨_,Tryz.type10,rfl,rfl,rfl⟩ nofun ?_;refine TE.ok_cons Tryz.underlying11 ⟨_,Tryz.type11,rfl,rfl,rfl⟩ nofun ?_;refine TE.ok_cons Tryz.underlying12 ⟨_,Tryz.type12,rfl,rfl,rfl⟩ nofun ?_;refine TE.ok_cons Tryz.underlying13 ⟨_,Tryz.type13,rfl,rfl,rfl⟩ nofun ?_;refine TE.ok_cons Tryz.underlying14 ⟨_,Tryz.type14,rfl,rfl,rfl⟩ nofun ?_;refine TE.ok_cons Tryz.underlying15 ⟨_,Tryz.type15,rfl,rfl,rfl⟩ nofun ?_;refine TE.ok_cons Tryz.underlying16 ⟨_,Tryz.type16,rfl,rfl,rfl⟩ nofun ?_;refine TE.ok_cons Tryz.underlying17 ⟨_,Tryz.type17,rfl,rfl,rfl⟩ nofun ?_;refine TE.ok_cons Tryz.underlying18 ⟨_,Tryz.type18,rfl,rfl,rfl⟩ nofun ?_;refine TE.ok_cons Tryz.underlying19 ⟨_,Tryz.type19,rfl,rfl,rfl⟩ nofun ?_;refine TE.ok_cons Tryz.underlying20 ⟨_,Tryz.type20,rfl,rfl,rfl⟩ nofun ?_;refine TE.ok_cons Tryz.underlying21 ⟨_,Tryz.type21,rfl,rfl,rfl⟩ nofun ?_;refine TE.ok_cons Tryz.underlying22 ⟨_,Tryz.type22,rfl,rfl,rfl⟩ nofun ?_;refine TE.ok_cons Tryz.underlying23 ⟨_,Tryz.type23,rfl,rfl,rfl⟩ nofun ?_;refine TE.ok_cons Tryz.underlying24 ⟨_,Tryz.type24,rfl,rfl,rfl⟩ nofun ?_;refine TE.ok_cons Tryz.underlying25 ⟨Tryz.t25,Tryz.type25,rfl,rfl,rfl⟩ (λ_=>⟨Tryz.stoodInHeld25,Tryz.eqGuardType25,λfs h f hf=>by cases h;revert f;decide⟩) ?_;refine TE.ok_cons Tryz.underlying26 ⟨Tryz.t26,Tryz.type26,rfl,rfl,rfl⟩ (λ_=>⟨Tryz.stoodInHeld26,Tryz.eqGuardType26,λfs h f hf=>by cases h;revert f;decide⟩) ?_;refine TE.ok_cons Tryz.underlying27 ⟨_,Tryz.type27,rfl,rfl,rfl⟩ nofun ?_;refine TE.ok_cons Tryz.underlying29 ⟨_,Tryz.type29,rfl,rfl,rfl⟩ nofun ?_;refine TE.ok_cons Tryz.underlying30 ⟨_,Tryz.type30,rfl,rfl,rfl⟩ nofun ?_;refine TE.ok_cons Tryz.underlying32 ⟨_,Tryz.type32,rfl,rfl,rfl⟩ nofun ?_;refine TE.ok_cons Tryz.underlying33 ⟨_,Tryz.type33,rfl,rfl,rfl⟩ nofun ?_;refine TE.ok_cons Tryz.underlying34 ⟨_,Tryz.type34,rfl,rfl,rfl⟩ nofun ?_;refine TE.ok_cons Tryz.underlying36 ⟨_,Tryz.type36,rfl,rfl,rfl⟩ nofun ?_;refine TE.ok_cons Tryz.underlying37 ⟨_,Tryz.type37,rfl,rfl,rfl⟩ nofun ?_;refine TE.ok_cons Tryz.underlying39 ⟨Tryz.t39,Tryz.type39,rfl,rfl,rfl⟩ (λ_=>⟨Tryz.stoodInHeld39,Tryz.eqGuardType39,λfs h f hf=>by cases h;revert f;decide⟩) ?_;refine TE.ok_cons Tryz.underlying40 ⟨Tryz.t40,Tryz.type40,rfl,rfl,rfl⟩ (λ_=>⟨Tryz.stoodInHeld40,Tryz.eqGuardType40,λfs h f hf=>by cases h;revert f;decide⟩) ?_;refine TE.ok_cons Tryz.underlying41 ⟨Tryz.t41,Tryz.type41,rfl,rfl,rfl⟩ (λ_=>⟨Tryz.stoodInHeld41,Tryz.eqGuardType41,λfs h f hf=>by cases h;revert f;decide⟩) ?_;refine TE.ok_cons Tryz.underlying42 ⟨Tryz.t42,Tryz.type42,rfl,rfl,rfl⟩ (λ_=>⟨Tryz.stoodInHeld42,Tryz.eqGuardType42,λfs h f hf=>by cases h;revert f;decide⟩) ?_;refine TE.ok_cons Tryz.underlying43 ⟨Tryz.t43,Tryz.type43,rfl,rfl,rfl⟩ (λ_=>⟨Tryz.stoodInHeld43,Tryz.eqGuardType43,λfs h f hf=>by cases h;revert f;decide⟩) ?_;refine TE.ok_cons Tryz.underlying44 ⟨Tryz.t44,Tryz.type44,rfl,rfl,rfl⟩ (λ_=>⟨Tryz.stoodInHeld44,Tryz.eqGuardType44,λfs h f hf=>by cases h;revert f;decide⟩) ?_;refine TE.ok_cons Tryz.underlying45 ⟨Tryz.t45,Tryz.type45,rfl,rfl,rfl⟩ (λ_=>⟨Tryz.stoodInHeld45,Tryz.eqGuardType45,λfs h f hf=>by cases h;revert f;decide⟩) ?_;refine TE.ok_cons Tryz.underlying46 ⟨Tryz.t46,Tryz.type46,rfl,rfl,rfl⟩ (λ_=>⟨Tryz.stoodInHeld46,Tryz.eqGuardType46,λfs h f hf=>by cases h;revert f;decide⟩) ?_;refine TE.ok_cons Tryz.underlying47 ⟨Tryz.t47,Tryz.type47,rfl,rfl,rfl⟩ (λ_=>⟨Tryz.stoodInHeld47,Tryz.eqGuardType47,λfs h f hf=>by cases h;revert f;decide⟩) ?_;refine TE.ok_cons Tryz.underlying48 ⟨_,Tryz.type48,rfl,rfl,rfl⟩ nofun ?_;refine TE.ok_cons Tryz.underlying49 ⟨_,Tryz.type49,rfl,rfl,rfl⟩ nofun ?_;refine TE.ok_cons Tryz.underlying50 ⟨_,Tryz.type50,rfl,rfl,rfl⟩ nofun ?_;refine TE.ok_cons Tryz.underlying51 ⟨_,Tryz.type51,rfl,rfl,rfl⟩ nofun ?_;refine TE.ok_cons Tryz.underlying52 ⟨_,Tryz.type52,rfl,rfl,rfl⟩ nofun ?_;refine TE.ok_cons Tryz.underlying53 ⟨_,Tryz.type53,rfl,rfl,rfl⟩ nofun ?_;refine TE.ok_cons Tryz.underlying54 ⟨_,Tryz.type54,rfl,rfl,rfl⟩ nofun ?_;refine TE.ok_cons Tryz.underlying55 ⟨_,Tryz.type55,rfl,rfl,rfl⟩ nofun ?_;refine TE.ok_cons Tryz.underlying56 ⟨_,Tryz.type56,rfl,rfl,rfl⟩ nofun ?_;refine TE.ok_cons Tryz.underlying57 ⟨_,Tryz.type57,rfl,rfl,rfl⟩ nofun ?_;refine TE.ok_cons Tryz.underlying59 ⟨_,Tryz.type59,rfl,rfl,rfl⟩ nofun ?_;refine TE.ok_cons Tryz.underlying60 ⟨_,Tryz.type60,rfl,rfl,rfl⟩ nofun ?_;refine TE.ok_cons Tryz.underlying61 ⟨_,Tryz.type61,rfl,rfl,rfl⟩ nofun ?_;refine TE.ok_cons Tryz.underlying63 ⟨_,Tryz.type63,rfl,rfl,rfl⟩ nofun ?_;refine TE.ok_cons Tryz.underlying64 ⟨Tryz.t64,Tryz.type64,rfl,rfl,rfl⟩ (λ_=>⟨Tryz.stoodInHeld64,Tryz.eqGuardType64,λfs h f hf=>by cases h;revert f;decide⟩) ?_;refine TE.ok_cons Tryz.underlying65 ⟨Tryz.t65,Tryz.type65,rfl,rfl,rfl⟩ (λ_=>⟨Tryz.stoodInHeld65,Tryz.eqGuardType65,λfs h f hf=>by cases h;revert f;decide⟩) ?_;refine TE.ok_cons Tryz.underlying66 ⟨_,Tryz.type66,rfl,rfl,rfl⟩ nofun ?_;refine TE.ok_cons Tryz.underlying67 ⟨_,Tryz.type67,rfl,rfl,rfl⟩ nofun ?_;refine TE.ok_cons Tryz.underlying68 ⟨_,Tryz.type68,rfl,rfl,rfl⟩ nofun ?_;refine TE.ok_cons Tryz.underlying69 ⟨_,Tryz.type69,rfl,rfl,rfl⟩ nofun ?_;refine TE.ok_cons Tryz.underlying70 ⟨_,Tryz.type70,rfl,rfl,rfl⟩ nofun ?_;refine TE.ok_cons Tryz.underlying72 ⟨Tryz.t72,Tryz.type72,rfl,rfl,rfl⟩ (λ_=>⟨Tryz.stoodInHeld72,Tryz.eqGuardType72,λfs h f hf=>by cases h;revert f;decide⟩) ?_;refine TE.ok_cons Tryz.underlying73 ⟨_,Tryz.type73,rfl,rfl,rfl⟩ nofun ?_;refine TE.ok_cons Tryz.underlying74 ⟨_,Tryz.type74,rfl,rfl,rfl⟩ nofun ?_;refine TE.ok_cons Tryz.underlying75 ⟨_,Tryz.type75,rfl,rfl,rfl⟩ nofun ?_;refine TE.ok_cons Tryz.underlying76 ⟨_,Tryz.type76,rfl,rfl,rfl⟩ nofun ?_;refine TE.ok_cons Tryz.underlying77 ⟨Tryz.t77,Tryz.type77,rfl,rfl,rfl⟩ (λ_=>⟨Tryz.stoodInHeld77,Tryz.eqGuardType77,λfs h f hf=>by cases h;revert f;decide⟩) ?_;refine TE.ok_cons Tryz.underlying78 ⟨Tryz.t78,Tryz.type78,rfl,rfl,rfl⟩ (λ_=>⟨Tryz.stoodInHeld78,Tryz.eqGuardType78,λfs h f hf=>by cases h;revert f;decide⟩) ?_;refine TE.ok_cons Tryz.underlying79 ⟨_,Tryz.type79,rfl,rfl,rfl⟩ nofun ?_;refine TE.ok_cons Tryz.underlying80 ⟨_,Tryz.type80,rfl,rfl,rfl⟩ nofun ?_;refine TE.ok_cons Tryz.underlying81 ⟨_,Tryz.type81,rfl,rfl,rfl⟩ nofun ?_;refine TE.ok_cons Tryz.underlying82 ⟨_,Tryz.type82,rfl,rfl,rfl⟩ nofun ?_;refine TE.ok_cons Tryz.underlying84 ⟨_,Tryz.type84,rfl,rfl,rfl⟩ nofun ?_;refine TE.ok_cons Tryz.underlying90 ⟨_,Tryz.type90,rfl,rfl,rfl⟩ nofun ?_;refine TE.ok_cons Tryz.underlying92 ⟨_,Tryz.type92,rfl,rfl,rfl⟩ nofun ?_;refine TE.ok_cons Tryz.underlying94 ⟨_,Tryz.type94,rfl,rfl,rfl⟩ nofun ?_;refine TE.ok_cons Tryz.underlying97 ⟨_,Tryz.type97,rfl,rfl,rfl⟩ nofun ?_;refine TE.ok_cons Tryz.underlying100 ⟨_,Tryz.type100,rfl,rfl,rfl⟩ nofun ?_;refine TE.ok_cons Tryz.underlying102 ⟨Tryz.t102,Tryz.type102,rfl,rfl,rfl⟩ (λ_=>⟨Tryz.stoodInHeld102,Tryz.eqGuardType102,λfs h f hf=>by cases h;revert f;decide⟩) ?_;refine TE.ok_cons Tryz.underlying103 ⟨Tryz.t103,Tryz.type103,rfl,rfl,rfl⟩ (λ_=>⟨Tryz.stoodInHeld103,Tryz.eqGuardType103,λfs h f hf=>by cases h;revert f;decide⟩) ?_;refine TE.ok_cons Tryz.underlying105 ⟨_,Tryz.type105,rfl,rfl,rfl⟩ nofun ?_;refine TE.ok_cons Tryz.underlying108 ⟨_,Tryz.type108,rfl,rfl,rfl⟩ nofun ?_;refine TE.ok_cons Tryz.underlying112 ⟨_,Tryz.type112,rfl,rfl,rfl⟩ nofun ?_;refine TE.ok_cons Tryz.underlying113 ⟨_,Tryz.type113,rfl,rfl,rfl⟩ nofun ?_;refine TE.ok_cons Tryz.underlying117 ⟨_,Tryz.type117,rfl,rfl,rfl⟩ nofun ?_;refine TE.ok_cons Tryz.underlying124 ⟨_,Tryz.type124,rfl,rfl,rfl⟩ nofun ?_;refine TE.ok_cons Tryz.underlying126 ⟨_,Tryz.type126,rfl,rfl,rfl⟩ nofun ?_;refine TE.ok_cons Tryz.underlying132 ⟨_,Tryz.type132,rfl,rfl,rfl⟩ nofun ?_;refine TE.ok_cons Tryz.underlying135 ⟨_,Tryz.type135,rfl,rfl,rfl⟩ nofun ?_;refine TE.ok_cons Tryz.underlying138 ⟨_,Tryz.type138,rfl,rfl,rfl⟩ nofun ?_;refine TE.ok_cons Tryz.underlying141 ⟨_,Tryz.type141,rfl,rfl,rfl⟩ nofun ?_;refine TE.ok_cons Tryz.underlying143 ⟨_,Tryz.type143,rfl,rfl,rfl⟩ nofun ?_;refine TE.ok_cons Tryz.underlying148 ⟨_,Tryz.type148,rfl,rfl,rfl⟩ nofun ?_;refine TE.ok_cons Tryz.underlying152 ⟨_,Tryz.type152,rfl,rfl,rfl⟩ nofun ?_;refine TE.ok_cons Tryz.underlying156 ⟨_,Tryz.type156,rfl,rfl,rfl⟩ nofun ?_;refine TE.ok_cons Tryz.underlying161 ⟨Tryz.t161,Tryz.type161,rfl,rfl,rfl⟩ (λ_=>⟨Tryz.stoodInHeld161,Tryz.eqGuardType161,λfs h f hf=>by cases h;revert f;decide⟩) ?_;refine TE.ok_cons Tryz.underlying162 ⟨_,Tryz.type162,rfl,rfl,rfl⟩ nofun ?_;refine TE.ok_cons Tryz.underlying164 ⟨Tryz.t164,Tryz.type164,rfl,rfl,rfl⟩ (λ_=>⟨Tryz.stoodInHeld164,Tryz.eqGuardType164,λfs h f hf=>by cases h;revert f;decide⟩) ?_;refine TE.ok_cons Tryz.underlying167 ⟨_,Tryz.type167,rfl,rfl,rfl⟩ nofun ?_;refine TE.ok_cons Tryz.underlying172 ⟨_,Tryz.type172,rfl,rfl,rfl⟩ nofun ?_;refine TE.ok_cons Tryz.underlying177 ⟨_,Tryz.type177,rfl,rfl,rfl⟩ nofun ?_;refine TE.ok_cons Tryz.underlying178 ⟨Tryz.t178,Tryz.type178,rfl,rfl,rfl⟩ (λ_=>⟨Tryz.stoodInHeld178,Tryz.eqGuardType178,λfs h f hf=>by cases h;revert f;decide⟩) ?_;refine TE.ok_cons Tryz.underlying179 ⟨Tryz.t179,Tryz.type179,rfl,rfl,rfl⟩ (λ_=>⟨Tryz.stoodInHeld179,Tryz.eqGuardType179,λfs h f hf=>by cases h;revert f;decide⟩) ?_;refine TE.ok_cons Tryz.underlying187 ⟨_,Tryz.type187,rfl,rfl,rfl⟩ nofun ?_;refine TE.ok_cons Tryz.underlying188 ⟨_,Tryz.type188,rfl,rfl,rfl⟩ nofun ?_;refine TE.ok_cons Tryz.underlying189 ⟨_,Tryz.type189,rfl,rfl,rfl⟩ nofun ?_;refine TE.ok_cons Tryz.underlying192 ⟨_,Tryz.type192,rfl,rfl,rfl⟩ nofun ?_;refine TE.ok_cons Tryz.underlying203 ⟨_,Tryz.type203,rfl,rfl,rfl⟩ nofun ?_;refine TE.ok_cons Tryz.underlying215 ⟨_,Tryz.type215,rfl,rfl,rfl⟩ nofun ?_;refine TE.ok_cons Tryz.underlying218 ⟨_,Tryz.type218,rfl,rfl,rfl⟩ nofun ?_;refine TE.ok_cons Tryz.underlying225 ⟨_,Tryz.type225,rfl,rfl,rfl⟩ nofun ?_;refine TE.ok_cons Tryz.underlying230 ⟨Tryz.t230,Tryz.type230,rfl,rfl,rfl⟩ (λ_=>⟨Tryz.stoodInHeld230,Tryz.eqGuardType230,λfs h f hf=>by cases h;revert f;decide⟩) ?_;refine TE.ok_cons Tryz.underlying231 ⟨_,Tryz.type231,rfl,rfl,rfl⟩ nofun ?_;refine TE.ok_cons Tryz.underlying233 ⟨_,Tryz.type233,rfl,rfl,rfl⟩ nofun ?_;refine TE.ok_cons Tryz.underlying234 ⟨_,Tryz.type234,rfl,rfl,rfl⟩ nofun ?_;refine TE.ok_cons Tryz.underlying236 ⟨Tryz.t236,Tryz.type236,rfl,rfl,rfl⟩ (λ_=>⟨Tryz.stoodInHeld236,Tryz.eqGuardType236,λfs h f hf=>by cases h;revert f;decide⟩) ?_;refine TE.ok_cons Tryz.underlying237 ⟨_,Tryz.type237,rfl,rfl,rfl⟩ nofun ?_;refine TE.ok_cons Tryz.underlying244 ⟨_,Tryz.type244,rfl,rfl,rfl⟩ nofun ?_;refine TE.ok_cons Tryz.underlying245 ⟨_,Tryz.type245,rfl,rfl,rfl⟩ nofun ?_;refine TE.ok_cons Tryz.underlying246 ⟨_,Tryz.type246,rfl,rfl,rfl⟩ nofun ?_;refine TE.ok_cons Tryz.underlying247 ⟨_,Tryz.type247,rfl,rfl,rfl⟩ nofun ?_;refine TE.ok_cons Tryz.underlying249 ⟨_,Tryz.type249,rfl,rfl,rfl⟩ nofun ?_;refine TE.ok_cons Tryz.underlying250 ⟨_,Tryz.type250,rfl,rfl,rfl⟩ nofun ?_;refine TE.ok_cons Tryz.underlying252 ⟨_,Tryz.type252,rfl,rfl,rfl⟩ nofun ?_;refine TE.ok_cons Tryz.underlying254 ⟨_,Tryz.type254,rfl,rfl,rfl⟩ nofun ?_;refine TE.ok_cons Tryz.underlying255 ⟨_,Tryz.type255,rfl,rfl,rfl⟩ nofun ?_;refine TE.ok_cons Tryz.underlying256 ⟨_,Tryz.type256,rfl,rfl,rfl⟩ nofun ?_;refine TE.ok_cons Tryz.underlying257 ⟨_,Tryz.type257,rfl,rfl,rfl⟩ nofun ?_;refine TE.ok_cons Tryz.underlying258 ⟨_,Tryz.type258,rfl,rfl,rfl⟩ nofun ?_;refine TE.ok_cons Tryz.underlying260 ⟨_,Tryz.type260,rfl,rfl,rfl⟩ nofun ?_;refine TE.ok_cons Tryz.underlying261 ⟨_,Tryz.type261,rfl,rfl,rfl⟩ nofun ?_;exact TE.ok_nil
set_option maxRecDepth 100000 in
theorem te_one:∀t ti,lk te t=some ti->waz ti.desc=false->ti.sz=1:=TE.one_of (by rfl)
def wfr:List AV:=(List.flatten (List.replicate (nat_lit 0) [.str ([]),.int .i64 0,.int .i64 0,.str ([]),.str ([]),.int .i64 0,.int .i64 0,.int .i64 0,.int .i64 0,.str ([]),.str ([]),.str ([]),.int .i64 0,.str ([]),.int .i64 0]))
theorem prg{C:Ctx}(hP:C.P=Tryz.prog):Prg C te:=⟨hP ▸ te_ok,te_one⟩
end Go.Eng
namespace Go.Eng
open Go.Proofs Go.RowKit
variable {H:Type} {enc:TypeId×Value->H}
theorem w1t{a:Assume}{C:Checked}{os:Os}{f:FuncId}{fn:Func}{s:ChangeSpec}{conds:List PathCond}{apart fresh handsOn again:Bool}{X:World->Array Value->Prop}
  (hX:∀(w w':World) (args:Array Value),w.heap=w'.heap->X w args->X w' args)
  (own:ownKnob C.prog.godebug=none) (started:os.Started) (noInit:C.prog.inits.idxOf? f=none) (hfn:C.prog.funcs[f]?=some fn)
  (witness:∃(w:World) (tape:Tape) (i:Input),w.os=os/\(w.forCall tape i).Shaped C.prog/\i.vars=[]/\Input.okWide C.prog (w.forCall tape i) .any w.heap.size f i/\
   ((s.pre enc C.prog fn conds apart (w.forCall tape i).memory i.args/\X (w.forCall tape i).memory i.args)/\sizedMet enc C.prog fn (OpenSpec.ofChange s) apart (w.forCall tape i).memory i.args)/\a.holds C.prog (lone (Frame.enter C.prog f i.args .normal) [] (w.forCall tape i)))
  (contract:∀(W:World) (base:Nat) (args:Array Value) (ds gs:List (DataW H)) (before:List MemPlace),
   (∀(j:Nat) t v,fn.params[j]?=some t->args[j]?=some v->Value.okWide C.prog W .any base t v)->
   DataW.Whole enc C.prog fn.params.toList s.vars apart W args.toList ds gs before->X W args->W.ShapedOpen C.prog->
   Calls C.prog f args W λe W'=>∃v,e= .returned v/\s.post enc C.prog fn apart fresh handsOn again W args v W'):
  ReturnsInHanded a C os f .any (λw args=>(s.pre enc C.prog fn conds apart w args/\X w args)/\sizedMet enc C.prog fn (OpenSpec.ofChange s) apart w args) (s.post enc C.prog fn apart fresh handsOn again):=by
 refine returnsInHanded_of_calls own started noInit witness ?_;intro w tape i _ hsh _ hok hpre _;obtain⟨_,_,_,fn',hfn',_,_,_,_,hval⟩:=hok;have e:fn'=fn:=oJ7 (hfn'.symm.trans hfn);subst e;obtain⟨⟨⟨ds,gs,before,hw,_⟩,hx⟩,_⟩:=hpre;have hw':=DataW.Whole.of_heap (w':=w.forCall tape i) (by rfl) hw;have hx':=hX _ (w.forCall tape i) i.args (by rfl) hx;refine(contract (w.forCall tape i) w.heap.size i.args ds gs before hval hw' hx' hsh).mono λe W' ⟨v,he,hp⟩=>?_;subst he;exact ChangeSpec.post_blind hp
theorem ADet.top{C:Ctx}{f:FuncId}{args:List AV}{b:Bool}(h:ADet C f args [] (.bool b) []){w:World}(hl:C.laid w)(hg:C.gsz<=w.heap.size){cargs:List Value}(hlen:cargs.length=args.length)
  (hV:∀(j:Nat) v u,cargs[j]?=some v->args[j]?=some u->V w (λ_=>False) nob v u):Calls C.P f cargs.toArray w λe w'=>e= .returned (.bool b)/\Below w.heap.size w w':=by
 have no:∀r,lkL [] r=none:=λr=>by cases r<;>rfl
 have nm:∀b',¬ mutB (lkL []) nob b':=by
  rintro b' ⟨r,o,c,ho,_⟩;rw[no r] at ho;cases ho
 have hw:WRep C ⟨w,0,nob,λ_=>False,λ_=>False⟩ (lkL []) nob w:={
  obj:=λr o ho=>by rw[no r] at ho;cases ho
  sep:=λr r' o o' b c c' ho=>by rw[no r] at ho;cases ho
  out:=λb hb=>absurd hb (nm b)
  frz:=λr t sz n f b c ho=>by rw[no r] at ho;cases ho
  high:=λb hb=>by
   rcases hb with hb | hb
   ·exact hb.elim
   ·exact absurd hb (nm b)
  lt:=λr b c hb=>by simp[nob] at hb
  outlt:=λb hb=>hb.elim
  keep:=λb _ _=>rfl
  old:=λb hb=>absurd hb (nm b)
  size:=lR7 _
  pre:=λr x hr=>absurd hr (nZ7 r)
  os:=rfl
  tape:=.refl _ _
  output:=rfl
  laid:=hl
  gle:=hg }
 refine(h.2 ⟨w,0,nob,λ_=>False,λ_=>False⟩ nob w cargs rfl rfl rfl hw (λ_ _=>rfl) hlen (λj v u hv hu=>(hV j v u hv hu).step_ (λb _ _ hb=>?_) (λ_ _ _=>rfl) (lR7 _) nob (λ_ _ h=>h))).mono ?_
 ·rcases hb with hb | hb
  ·exact hb
  ·exact nm b hb
 ·rintro e w' ⟨v,u,O',bs',rfl,⟨rfl,rfl⟩,hw',hV',_⟩
  cases hV';exact⟨rfl,hw'.os,hw'.tape.tape,hw'.output,hw'.size,λi hi=>hw'.keep i hi (λh=>h)⟩
theorem wkr{W:World}{A:Option Addr}{n c sz:Nat}(g:Nat->List AV)(hn:n<=c)(hc:c<=maxLen)(hl:∀i,i<n->(g i).length=sz)
  (h:n=0∨∃ad,A=some ad/\ad.block<W.heap.size/\∀i,i<n->∀j,j<sz->∃v,W.cell? (ad.add (i * sz+j))=some v/\v.oneCell'=true/\∀u,(g i)[j]?=some u->V W (λ_=>False) nob v u):V W (λ_=>False) nob (.slice A n c) (.view sz n g):=by
 rcases h with rfl | ⟨ad,rfl,hb,h⟩
 ·exact .view ⟨0,0,none⟩ (λ_ _=>default) hn hc (λh=>absurd h (by omega)) hl (λi hi=>by omega) (λi hi=>by omega) (λi hi=>by omega)
 ·have hj:∀i,i<n->∀j u,(g i)[j]?=some u->j<sz:=λi hi j u hu=>by
   have:=(List.getElem?_eq_some_iff.1 hu).1;rw[hl i hi] at this;exact this
  refine .view ad (λi j=>(W.cell? (ad.add (i * sz+j))).getD default) hn hc (λ_=>⟨rfl,λh=>h,hb⟩) hl (λi hi j hj=>?_) (λi hi j hj=>?_) (λi hi j u hu=>?_)
  ·obtain⟨v,h1,_⟩:=h i hi j hj;rw[h1];rfl
  ·obtain⟨v,h1,h2,_⟩:=h i hi j hj;rw[h1];exact h2
  ·obtain⟨v,h1,_,h3⟩:=h i hi j (hj i hi j u hu);rw[h1];exact h3 u hu
end Go.Eng
namespace Go.Eng
def wcr(p:UInt8->Bool)(s:List UInt8):List UInt8:=(s.reverse.dropWhile p).reverse
def wd2(c s:List UInt8):List UInt8:=(wcr (c.contains ·) s).dropWhile (c.contains ·)
def wd0:Spec
 |[.str s,.str c],[]=>some (.str (wd2 c s),[],s.length<=maxLen/\2<=c.length/\c.length<4294967281/\∀b∈c,b.toNat<128)
 |_,_=>none
theorem wul(p:UInt8->Bool)(r:List UInt8)(x:UInt8):wcr p (r++[x])=if p x then wcr p r else r++[x]:=by
 unfold wcr;simp only[List.reverse_append,List.reverse_cons,List.reverse_nil,List.nil_append,List.cons_append,List.dropWhile_cons];split<;>simp
theorem wwg{α:Type}(l:List α):l=[]∨∃r x,l=r++[x]:=by
 rcases List.eq_nil_or_concat l with h | ⟨r,x,h⟩
 ·exact .inl h
 ·exact .inr ⟨r,x,by rw[h];simp⟩
def wba(cells:List AV)(x:UInt8):Bool:=wck (cells.getD x.toNat .any)
def wb6(cells:List AV):Prop:=cells.length=256/\∀u∈cells,∃b,u= .bool b
theorem wb6.at_{cells:List AV}(h:wb6 cells)(x:UInt8):cells[x.toNat]?=some (.bool (wba cells x)):=by
 have hlt:x.toNat<cells.length:=by rw[h.1];exact x.toNat_lt
 obtain⟨b,hb⟩:=h.2 cells[x.toNat] (List.getElem_mem hlt);have:wba cells x=b:=by simp[wba,hlt,hb,wck]
 rw[this,List.getElem?_eq_getElem hlt,hb]
theorem wb6.rn{cells:List AV}(h:wb6 cells)(ρ:Nat->Option Nat):AV.rnL ρ cells=cells:=by
 have key:∀l:List AV,(∀u∈l,∃b,u= .bool b)->AV.rnL ρ l=l:=by
  intro l
  induction l with
  |nil=>intro _;rfl
  |cons u l ih=>
   intro hl;obtain⟨b,rfl⟩:=hl u (by simp);simp only[AV.rnL,AV.rn,ih λu hu=>hl u (List.mem_cons_of_mem _ hu)]
 exact key cells h.2
@[irreducible] def setAV (cs:List UInt8):List AV:=(List.range 256).map λi=>.bool (cs.contains (UInt8.ofNat i))
theorem we1(cs:List UInt8):wb6 (setAV cs):=⟨by unfold setAV;simp,λu hu=>by
 unfold setAV at hu;obtain⟨i,_,rfl⟩:=List.mem_map.1 hu;exact⟨_,rfl⟩⟩
theorem w1q(cs:List UInt8)(x:UInt8):wba (setAV cs) x=cs.contains x:=by
 have:x.toNat<256:=x.toNat_lt;unfold wba setAV;simp[List.getD,this,wck]
def wfl:Spec
 |[.ptr 0 0,.int .u8 x],[.cells cells t]=>some (.bool (wba cells (UInt8.ofNat x.toNat)),[(0,.cells cells t)],wb6 cells/\0<=x/\x<256)
 |_,_=>none
def wkz:Spec
 |[.str s,.ptr 0 0],[.cells cells 199]=>some (.str (s.dropWhile (wba cells)),[(0,.cells cells 199)],wb6 cells)
 |_,_=>none
def wky:Spec
 |[.str s,.ptr 0 0],[.cells cells 199]=>some (.str (wcr (wba cells) s),[(0,.cells cells 199)],wb6 cells/\s.length<=maxLen)
 |_,_=>none
def wdi(cells:List AV)(t:Nat)(s:List UInt8):St:=⟨[(0,.str s),(1,.ptr 0 0)],[(0,.cells cells t)],1,[]⟩
def wm3(s:List UInt8)(cells:List AV)(t:Nat):waq:=λst Q=>canonIs te 1 [0,1] st (wdi cells t s)/\wb6 cells/\Q (.exit 0) ⟨[(0,.str (s.dropWhile (wba cells)))],[(0,.cells cells t)],1,[]⟩
def wm2(s:List UInt8)(cells:List AV)(t:Nat):waq:=λst Q=>canonIs te 1 [0,1] st (wdi cells t s)/\wb6 cells/\s.length<=maxLen/\Q (.exit 0) ⟨[(0,.str (wcr (wba cells) s))],[(0,.cells cells t)],1,[]⟩
def wvf:Spec
 |[.str l],[]=>some (.tuple [.agg (setAV l),.bool true],[],l.length<4294967281/\∀b∈l,b.toNat<128)
 |_,_=>none
def wm1(s cs:List UInt8):waq:=λst Q=>canonIs te 0 [0,1] st ⟨[(0,.str s),(1,.str cs)],[],0,[]⟩/\cs.length<4294967281/\(∀b∈cs,b.toNat<128)/\
 Q .normal ⟨[(0,.str s),(5,.ptr 0 0),(6,.bool true)],[(0,.cells (setAV cs) 199)],1,[]⟩
def vInt(f:Nat->List AV)(i:Nat):Int:=wau ((f i).headD .any)
def waf(v:Nat->Int):Nat->List AV:=λi=>[.q (v i)]
def minV(v:Nat->Int):Nat->Int
 |0=>v 0
 |k+1=>min (minV v k) (v (k+1))
def maxV(v:Nat->Int):Nat->Int
 |0=>v 0
 |k+1=>max (maxV v k) (v (k+1))
def wlm:Spec
 |[.own 0 n],[.row t 1 m f fr]=>some (.q (minV (vInt f) (n - 1)),[(0,.row t 1 m f fr)],t=3/\fr=false/\1<=n/\n=m/\n<=4611686018427387904/\f=waf (vInt f))
 |_,_=>none
def wlo:Spec
 |[.own 0 n],[.row t 1 m f fr]=>some (.q (maxV (vInt f) (n - 1)),[(0,.row t 1 m f fr)],t=3/\fr=false/\1<=n/\n=m/\n<=4611686018427387904/\f=waf (vInt f))
 |_,_=>none
def wfm(n:Nat)(v g:Nat->Int)(k:Nat):St:=⟨[(0,.own 0 n),(3,.q (g k)),(4,.q ((k:Int)+1))],[(0,.row 3 1 n (λi=>[.q (v i)]) false)],1,[]⟩
def L_mm(n:Nat)(v g:Nat->Int):waq:=λst Q=>canonIs te 1 [0,3,4] st (wfm n v g 0)/\1<=n/\n<=4611686018427387904/\Q (.exit 0) ⟨[(3,.q (g (n - 1)))],[(0,.row 3 1 n (λi=>[.q (v i)]) false)],1,[]⟩
theorem wbp{r:Nat}{t:TypeId}{sz n:Nat}{f:Nat->List AV}{fr:Bool}:wad [(r,.row t sz n f fr)] [(r,.row t sz n f fr)]:=⟨rQ7,trivial⟩
def decF(n:Int):List UInt8:=Lib.decDigits n.toNat
def wgp:Spec
 |[.int .i64 n],[]=>some (.str (decF n),[],0<=n/\n<100)
 |_,_=>none
def wh3(l:List UInt8):Int:=match Lib.atoiAll l with
 |.ok v=>v
 |.range=>Lib.atoiSat l
 |_=>0
def wmq:Spec
 |[.str s],[]=>some (.tuple [.q (wh3 s),.any],[],s.length<=281474976710656)
 |_,_=>none
def words(s:List UInt8):List (List UInt8):=Lib.split s [46]
def wk1:Spec
 |[.str s,.str sep],[]=>some (.view 1 (words s).length (λi=>[.str ((words s).getD i [])]),[],s.length<4294967281/\sep=[46])
 |_,_=>none
def wcc(v:Nat->Int):Nat->List UInt8
 |0=>[]
 |k+1=>wcc v k++(46::decF (v (k+1)))
def wcz(a:Int):List UInt8:=match decide (a<10) with
 |true=>48::decF a
 |false=>decF a
def fmtZ(n:Nat)(v:Nat->Int):List UInt8:=wcz (v 0)++wcc v (n - 1)
def wbc(n:Nat)(v:Nat->Int):Bool:=decide (1<=n) && decide (n<=5) && decide (1<=minV v (n - 1)) && decide (maxV v (n - 1)<=99)
def wmb:Spec
 |[.own 0 n],[.row t 1 m f fr]=>some (.tuple [.str (bif wbc n (vInt f) then fmtZ n (vInt f) else []),.q (bif wbc n (vInt f) then 0 else 64)],[(0,.row t 1 m f fr)],t=3/\fr=false/\n=m/\n<=4611686018427387904/\f=waf (vInt f))
 |_,_=>none
def wmd(n:Nat)(v:Nat->Int)(k:Nat):St:=⟨[(4,.str (wcz (v 0)++wcc v k)),(36,.sub 0 1 1 (n - 1)),(37,.q (n - 1:Nat)),(38,.q k)],[(0,.row 3 1 n (λi=>[.q (v i)]) false)],1,[]⟩
def wnm(n:Nat)(v:Nat->Int):waq:=λst Q=>canonIs te 1 [4,36,37,38] st (wmd n v 0)/\wbc n v=true/\Q (.exit 0) ⟨[(4,.str (fmtZ n v))],[(0,.row 3 1 n (λi=>[.q (v i)]) false)],1,[]⟩
theorem wsj (v : Nat → Int) : ∀ k i, i ≤ k → minV v k ≤ v i
  | 0, i, h => by have : i = 0 := by omega
                  subst this; exact Int.le_refl _
  | k + 1, i, h => by
    simp only [minV]
    rcases Nat.lt_or_ge i (k + 1) with hi | hi
    · have := wsj v k i (by omega); omega
    · have : i = k + 1 := by omega
      subst this; omega
theorem wsx (v : Nat → Int) : ∀ k i, i ≤ k → v i ≤ maxV v k
  | 0, i, h => by have : i = 0 := by omega
                  subst this; exact Int.le_refl _
  | k + 1, i, h => by
    simp only [maxV]
    rcases Nat.lt_or_ge i (k + 1) with hi | hi
    · have := wsx v k i (by omega); omega
    · have : i = k + 1 := by omega
      subst this; omega
theorem fmtOK_n{n:Nat}{v:Nat->Int}(h:wbc n v=true):1<=n/\n<=5:=by
 unfold wbc at h;simp only[bA7,decide_eq_true_eq] at h;omega
theorem wty{n:Nat}{v:Nat->Int}(h:wbc n v=true)(i:Nat)(hi:i<n):1<=v i/\v i<=99:=by
 unfold wbc at h;simp only[bA7,decide_eq_true_eq] at h;have h1:=wsj v (n - 1) i (by omega);have h2:=wsx v (n - 1) i (by omega);omega
theorem decF_lo{n:Int}(h0:0<=n)(h1:n<10):decF n=[UInt8.ofNat (48+n.toNat)]:=by
 unfold decF Lib.decDigits;rw[dif_pos (by omega)]
theorem decF_hi{n:Int}(h0:10<=n)(h1:n<100):decF n=[UInt8.ofNat (48+n.toNat / 10),UInt8.ofNat (48+n.toNat % 10)]:=by
 unfold decF;rw[Lib.decDigits,dif_neg (by omega),Lib.decDigits,dif_pos (by omega)];rfl
theorem wj9{n:Int}(h:1<=n/\n<=99):(decF n).length<=2:=by
 rcases Int.lt_or_le n 10 with h1 | h1
 ·rw[decF_lo (by omega) h1];simp
 ·rw[decF_hi h1 (by omega)];simp
theorem w18{n:Int}(h:1<=n/\n<=99):(wcz n).length<=3:=by
 have:=wj9 h;unfold wcz;split
 ·simp;omega
 ·omega
theorem wtx{n:Nat}{v:Nat->Int}(h:∀i,i<n->1<=v i/\v i<=99):∀k,k<n->(wcc v k).length<=3 * k
 |0,_=>by simp[wcc]
 |k+1,hk=>by
  have ih:=wtx h k (by omega);have hd:=wj9 (h (k+1) hk);simp only[wcc,lA7,List.length_cons];omega
theorem wib{s:List UInt8}(h:Lib.index s [46]= -1):words s=[s]:=by
 unfold words Lib.split;rw[Lib.count_miss h];rfl
theorem wqo{s:List UInt8}{i:Nat}(h:Lib.index s [46]=i):words s=s.take i::words (s.drop (i+1)):=by
 have hc:=Lib.count_hit (sub:=[46]) (by simp) h;unfold words Lib.split;rw[hc,Nat.add_comm 1];have hne:(Lib.index s [46]== -1)=false:=by rw[h];simp
 show (if Lib.index s [46]== -1 then [s] else _)=_
 rw[hne,h];simp
theorem wtb(s:List UInt8):Lib.index s [46]= -1∨∃i:Nat,Lib.index s [46]=i:=by
 have:=Lib.index_ge s [46]
 rcases Int.lt_or_le (Lib.index s [46]) 0 with h | h
 ·exact .inl (by omega)
 ·exact .inr ⟨(Lib.index s [46]).toNat,by omega⟩
theorem wgz(s:List UInt8):(words s).length=Lib.count s [46]+1:=by
 have key:∀n,∀s:List UInt8,s.length<=n->(words s).length=Lib.count s [46]+1:=by
  intro n
  induction n with
  |zero=>
   intro s hs;have:s=[]:=List.length_eq_zero_iff.1 (by omega);subst this;rw[wib rfl,Lib.count_miss rfl];rfl
  |succ n ih=>
   intro s hs
   rcases wtb s with h | ⟨i,h⟩
   ·rw[wib h,Lib.count_miss h];rfl
   ·rw[wqo h,Lib.count_hit (sub:=[46]) (by simp) h];have hr:=Lib.index_room s [46] (by omega);simp only[List.length_cons,List.length_nil,Nat.zero_add] at hr ⊢;rw[ih _ (by simp;omega)];omega
 exact key _ s (lR7 _)
theorem wvm(s:List UInt8):∀w∈words s,w.length<=s.length:=by
 have key:∀n,∀s:List UInt8,s.length<=n->∀w∈words s,w.length<=s.length:=by
  intro n
  induction n with
  |zero=>
   intro s hs w hw;have:s=[]:=List.length_eq_zero_iff.1 (by omega);subst this;rw[wib rfl] at hw;simp at hw;subst hw;simp
  |succ n ih=>
   intro s hs w hw
   rcases wtb s with h | ⟨i,h⟩
   ·rw[wib h] at hw;simp at hw;subst hw;exact lR7 _
   ·rw[wqo h] at hw;have hr:=Lib.index_room s [46] (by omega);simp only[List.length_cons,List.length_nil,Nat.zero_add] at hr
    rcases List.mem_cons.1 hw with rfl | hw
    ·simp;omega
    ·have:=ih (s.drop (i+1)) (by simp;omega) w hw;simp at this;omega
 exact key _ s (lR7 _)
structure LaidW (w:World):Prop where
 maxLen:∃m,w.cell? ⟨0,0,none⟩=some (.int .i64 m)
 errS:∃t p,w.cell? ⟨1,0,none⟩=some (.iface t p)
 errR:∃t p,w.cell? ⟨2,0,none⟩=some (.iface t p)
 pow : Lib.TabIs Go.Proofs.Tryz.prog w "internal/strconv.uint64pow10" .u64 Lib.pow10Tab
def wby(s:List UInt8)(i:Nat):Int:=wh3 ((words s).getD i [])
def wc1(s:List UInt8):Bool:=wbc (words s).length (wby s) && decide (fmtZ (words s).length (wby s)=s)
def wlf(s:List UInt8)(k:Nat):St:=⟨[(0,.str s),(4,.own 0 k),(12,.view 1 (words s).length (λi=>[.str ((words s).getD i [])])),(13,.q ((words s).length:Nat)),(14,.q k)],[(0,.row 3 1 k (λi=>[.q (wby s i)]) false)],1,[]⟩
def wm9(s:List UInt8):waq:=λst Q=>canonIs te 0 [0,4,12,13,14] (ownNil 4 3 1 st) (wlf s 0)/\s.length<4294967281/\Q (.exit 0) ⟨[(0,.str s),(4,.own 0 (words s).length)],[(0,.row 3 1 (words s).length (λi=>[.q (wby s i)]) false)],1,[]⟩
def wmw:wdm
 |[.str s],[],R=>s.length<4294967281/\wab (wc1 s) (R (.tuple [.own 0 (words s).length,.q 0]) [(0,.row 3 1 (words s).length (λi=>[.q (wby s i)]) false)]) (R (.tuple [.nil,.q 60]) [])
 |_,_,_=>False
end Go.Eng
