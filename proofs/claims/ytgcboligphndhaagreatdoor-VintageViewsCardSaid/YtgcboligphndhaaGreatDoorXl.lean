/- What the library's functions compute: plain functions. -/
import Derived.Test.YtgcboligphndhaaGreatDoorXk
import Derived.Test.YtgcboligphndhaaGreatDoorProg
import Derived.KernelRfl
import Derived.HandedShaped
import Derived.ProofKit
namespace Go.Eng
def ownNil(d t sz:Nat)(s:St):St:=match lk s.T d with
 |some .nil=>⟨(d,.own s.nx 0)::rm d s.T,(s.nx,.row t sz 0 (λ_=>[]) false)::s.O,s.nx+1,[]⟩
 |_=>s
theorem RepS.ownNil{C:Ctx}{E:Ent}{N:Nat}{s:St}{bs:Nat->Option Hd}{a:Act}{w:World}(d t sz:Nat)(h:RepS C E N s bs a w):∃bs',RepS C E N (ownNil d t sz s) bs' a w:=by
 unfold Eng.ownNil;split
 ·rename_i hd;obtain⟨T,O,nx,dec⟩:=s;obtain⟨⟨hF,hW⟩,hnx,hm⟩:=h;have hn:=hnx nx (lR7 _);have hb0:bs nx=none:=hn.2;have hO0:lk O nx=none:=hn.1
  let bs':=up bs nx .nil
  have hbs:∀r x,bs r=some x->bs' r=some x:=λr x hx=>by
   have:nx≠r:=λe=>by subst e;rw[hb0] at hx;cases hx
   show up bs nx .nil r=some x;rw[wat _ _ _ this];exact hx
  have hbk:∀r b c,bs' r=some (.blk b c)->bs r=some (.blk b c):=λr b c hx=>by
   by_cases hr:nx=r
   ·subst hr;have:up bs nx .nil nx=some (.blk b c):=hx;rw[wav] at this;cases this
   ·have:up bs nx .nil r=some (.blk b c):=hx
    rwa [wat _ _ _ hr] at this
  have hlk:∀r o,lk ((nx,AObj.row t sz 0 (λ_=>[]) false)::O) r=some o->(r=nx/\o= .row t sz 0 (λ_=>[]) false)∨(r≠nx/\lk O r=some o):=λr o ho=>by
   rw[wa4] at ho;split at ho
   ·rename_i e;have e':nx=r:=e;simp only[sI7] at ho;exact .inl ⟨e'.symm,ho.symm⟩
   ·rename_i e;exact .inr ⟨λe'=>e e'.symm,ho⟩
  have hmb:∀b,mutB (lk ((nx,AObj.row t sz 0 (λ_=>[]) false)::O)) bs' b->mutB (lk O) bs b:=by
   rintro b ⟨r,o,c,ho,hmu,hb⟩
   rcases hlk r o ho with⟨rfl,rfl⟩ | ⟨hne,ho⟩
   ·have:=hbk _ _ _ hb;rw[hb0] at this;cases this
   ·exact⟨r,o,c,ho,hmu,hbk _ _ _ hb⟩
  have hMB:∀b,MB E (lk ((nx,AObj.row t sz 0 (λ_=>[]) false)::O)) bs' b->MB E (lk O) bs b:=λb hb=>hb.imp id (hmb b);have vm:∀ {v:Value} {u:AV},V w (MB E (lk O) bs) bs v u->V w (MB E (lk ((nx,AObj.row t sz 0 (λ_=>[]) false)::O)) bs') bs' v u:=λh=>
   h.step_ (λb _ hb hb'=>hb (hMB b hb')) (λ_ _ _=>rfl) (lR7 _) _ hbs
  have hS:Step w (MB E (lk O) bs) bs w (MB E (lk ((nx,AObj.row t sz 0 (λ_=>[]) false)::O)) bs') bs':=⟨hbs,λb _ hb hb'=>hb (hMB b hb'),λ_ _ _=>rfl,lR7 _⟩;refine⟨bs',⟨⟨hF.1,hF.2.1,λi u hu=>?_⟩,?_⟩,λr hr=>?_,Nat.le_succ_of_le hm⟩
  ·have hu':lk ((d,AV.own nx 0)::rm d T) i=some u:=hu;rw[we3,wa4] at hu';split at hu'
   ·rename_i e;have e':d=i:=e;subst e';simp only[sI7] at hu';subst hu';obtain⟨v,hv,hV⟩:=hF.2.2 d _ hd
    cases hV;exact⟨_,hv,.ownnil (wav _ _ _) rfl⟩
   ·obtain⟨v,hv,hV⟩:=hF.2.2 i u hu';exact⟨v,hv,vm hV⟩
  ·exact {
    obj:=λr o ho=>by
     rcases hlk r o ho with⟨rfl,rfl⟩ | ⟨hne,ho⟩
     ·exact .inl ⟨wav _ _ _,rfl⟩
     ·exact(hW.obj r o ho).step hS λ_ _ _=>rfl
    sep:=λr r' o1 o2 b c c' h1 h2 m1 m2 b1 b2=>by
     rcases hlk r o1 h1 with⟨rfl,rfl⟩ | ⟨hne,h1⟩
     ·have:=hbk _ _ _ b1;rw[hb0] at this;cases this
     ·rcases hlk r' o2 h2 with⟨rfl,rfl⟩ | ⟨hne',h2⟩
      ·have:=hbk _ _ _ b2;rw[hb0] at this;cases this
      ·exact hW.sep r r' o1 o2 b c c' h1 h2 m1 m2 (hbk _ _ _ b1) (hbk _ _ _ b2)
    out:=λb hb=>hW.out b (hmb b hb)
    frz:=λr t' sz' n f b c ho hb hM=>by
     rcases hlk r _ ho with⟨rfl,h⟩ | ⟨hne,ho⟩
     ·cases h
     ·exact hW.frz r t' sz' n f b c ho (hbk _ _ _ hb) (hMB b hM)
    high:=λb hb=>hW.high b (hMB b hb)
    lt:=λr b c hb=>hW.lt r b c (hbk _ _ _ hb)
    outlt:=hW.outlt
    keep:=hW.keep
    old:=λb hb=>hW.old b (hmb b hb)
    size:=hW.size
    pre:=λr x hr hb=>hbs r x (hW.pre r x hr hb)
    os:=hW.os
    tape:=hW.tape
    output:=hW.output
    laid:=hW.laid
    gle:=hW.gle }
  ·have hr':nx+1<=r:=hr;obtain⟨q1,q2⟩:=hnx r (show nx<=r by omega);refine⟨?_,?_⟩
   ·show lk ((nx,AObj.row t sz 0 (λ_=>[]) false)::O) r=none;rw[wa4];have:nx≠r:=by omega
    simp[this,q1]
   ·show up bs nx .nil r=none;rw[wat _ _ _ (by omega)];exact q2
 ·exact⟨bs,h⟩
theorem AWP.ownNil{C:Ctx}{m N:Nat}{c:Code}{Q:Exit->St->Prop}{s:St}(d t sz:Nat)(h:AWP C m N c Q (Eng.ownNil d t sz s)):AWP C m N c Q s:=by
 intro E hE bs a w hr;obtain⟨bs',hr'⟩:=hr.ownNil d t sz;exact h E hE bs' a w hr'
end Go.Eng
namespace Go.Eng
open Go.Proofs
abbrev oL7:=List (Nat×AObj)
abbrev tL7:=List (Nat×AV)
abbrev oR7:=AV->oL7->Prop
abbrev eR7:=Exit->St->Prop
theorem rQ7{a b c d:Nat}{e:Bool}{f:Nat->List AV}:a=a/\b=b/\c=c/\d=d/\e=e/\∀i,i<d->f i=f i:=⟨rfl,rfl,rfl,rfl,rfl,λ_ _=>rfl⟩
abbrev AV.q (x:Int):AV:=.int .i64 x
def te:TE:=[
 (0,⟨.tuple #[],1,0,.tuple #[],false⟩),
 (1,⟨.func #[] #[] false,1,8,.nilFunc,false⟩),
 (2,⟨.int .i64,1,8,.int .i64 0,false⟩),
 (3,⟨.int .i64,1,8,.int .i64 0,false⟩),
 (4,⟨.bool,1,1,.bool false,false⟩),
 (5,⟨.int .u8,1,1,.int .u8 0,false⟩),
 (6,⟨.int .u8,1,1,.int .u8 0,false⟩),
 (7, ⟨.struct #[⟨ "x", 2, 0, false, "", "runtime", 0⟩, ⟨ "y", 3, 1, false, "", "runtime", 8⟩, ⟨ "signed", 4, 2, false, "", "runtime", 16⟩, ⟨ "code", 6, 3, false, "", "runtime", 17⟩], 4, 24, .agg #[.int .i64 0, .int .i64 0, .bool false, .int .u8 0], true⟩),
 (8, ⟨.struct #[⟨ "x", 2, 0, false, "", "runtime", 0⟩, ⟨ "y", 3, 1, false, "", "runtime", 8⟩, ⟨ "signed", 4, 2, false, "", "runtime", 16⟩, ⟨ "code", 6, 3, false, "", "runtime", 17⟩], 4, 24, .agg #[.int .i64 0, .int .i64 0, .bool false, .int .u8 0], true⟩),
 (9,⟨.string,1,16,.string { data:=#[] },false⟩),
 (10,⟨.string,1,16,.string { data:=#[] },false⟩),
 (11,⟨.string,1,16,.string { data:=#[] },false⟩),
 (12,⟨.int .u64,1,8,.int .u64 0,false⟩),
 (14, ⟨.struct #[⟨ "msg", 9, 0, false, "", "runtime", 0⟩, ⟨ "addr", 12, 1, false, "", "runtime", 16⟩], 2, 24, .agg #[.string { data := #[] }, .int .u64 0], false⟩),
 (15,⟨.pointer 304,1,8,.pointer none,false⟩),
 (16,⟨.pointer 307,1,8,.pointer none,false⟩),
 (17,⟨.pointer 315,1,8,.pointer none,false⟩),
 (18, ⟨.struct #[⟨ "typ", 17, 0, false, "", "internal/runtime/maps", 0⟩], 1, 8, .agg #[.pointer none], false⟩),
 (19, ⟨.struct #[⟨ "typ", 17, 0, false, "", "internal/runtime/maps", 0⟩], 1, 8, .agg #[.pointer none], false⟩),
 (20,⟨.interface #[],1,16,.nilIface,false⟩),
 (21,⟨.int .i32,1,4,.int .i32 0,false⟩),
 (22,⟨.slice 40,1,24,.slice none 0 0,false⟩),
 (23,⟨.slice 3,1,24,.slice none 0 0,false⟩),
 (24,⟨.func #[25] #[22] false,1,8,.nilFunc,false⟩),
 (25,⟨.pointer 27,1,8,.pointer none,false⟩),
 (26, ⟨.struct #[⟨ "L", 23, 0, false, "", "", 0⟩, ⟨ "At", 3, 1, false, "", "", 24⟩], 2, 32, .agg #[.slice none 0 0, .int .i64 0], true⟩),
 (27, ⟨.struct #[⟨ "L", 23, 0, false, "", "", 0⟩, ⟨ "At", 3, 1, false, "", "", 24⟩], 2, 32, .agg #[.slice none 0 0, .int .i64 0], true⟩),
 (28,⟨.func #[22] #[22] false,1,8,.nilFunc,false⟩),
 (30,⟨.slice 83,1,24,.slice none 0 0,false⟩),
 (31,⟨.func #[22] #[30] false,1,8,.nilFunc,false⟩),
 (32,⟨.func #[] #[4] false,1,8,.nilFunc,false⟩),
 (33,⟨.func #[22,23] #[4] false,1,8,.nilFunc,false⟩),
 (34,⟨.func #[25,22] #[22] false,1,8,.nilFunc,false⟩),
 (36, ⟨.struct #[⟨ "Outlet", 9, 0, false, "", "", 0⟩, ⟨ "Product", 9, 1, false, "", "", 16⟩, ⟨ "Period", 3, 2, false, "", "", 32⟩, ⟨ "Day", 3, 3, false, "", "", 40⟩, ⟨ "Status", 3, 4, false, "", "", 48⟩, ⟨ "Price", 2, 5, false, "", "", 56⟩, ⟨ "Replacement", 9, 6, false, "", "", 64⟩], 7, 80, .agg #[.string { data := #[] }, .string { data := #[] }, .int .i64 0, .int .i64 0, .int .i64 0, .int .i64 0, .string { data := #[] }], true⟩),
 (37, ⟨.struct #[⟨ "Outlet", 9, 0, false, "", "", 0⟩, ⟨ "Product", 9, 1, false, "", "", 16⟩, ⟨ "Period", 3, 2, false, "", "", 32⟩, ⟨ "Device", 9, 3, false, "", "", 40⟩, ⟨ "Number", 3, 4, false, "", "", 56⟩], 5, 64, .agg #[.string { data := #[] }, .string { data := #[] }, .int .i64 0, .string { data := #[] }, .int .i64 0], true⟩),
 (38, ⟨.struct #[⟨ "Outlet", 9, 0, false, "", "", 0⟩, ⟨ "Product", 9, 1, false, "", "", 16⟩, ⟨ "Period", 3, 2, false, "", "", 32⟩, ⟨ "Device", 9, 3, false, "", "", 40⟩, ⟨ "Number", 3, 4, false, "", "", 56⟩], 5, 64, .agg #[.string { data := #[] }, .string { data := #[] }, .int .i64 0, .string { data := #[] }, .int .i64 0], true⟩),
 (39, ⟨.struct #[⟨ "Device", 9, 0, false, "", "", 0⟩, ⟨ "Sequence", 3, 1, false, "", "", 16⟩, ⟨ "Kind", 3, 2, false, "", "", 24⟩, ⟨ "Visit", 36, 3, false, "", "", 32⟩, ⟨ "Decision", 38, 10, false, "", "", 112⟩], 15, 176, .agg #[.string { data := #[] }, .int .i64 0, .int .i64 0, .string { data := #[] }, .string { data := #[] }, .int .i64 0, .int .i64 0, .int .i64 0, .int .i64 0, .string { data := #[] }, .string { data := #[] }, .string { data := #[] }, .int .i64 0, .string { data := #[] }, .int .i64 0], true⟩),
 (40, ⟨.struct #[⟨ "Device", 9, 0, false, "", "", 0⟩, ⟨ "Sequence", 3, 1, false, "", "", 16⟩, ⟨ "Kind", 3, 2, false, "", "", 24⟩, ⟨ "Visit", 36, 3, false, "", "", 32⟩, ⟨ "Decision", 38, 10, false, "", "", 112⟩], 15, 176, .agg #[.string { data := #[] }, .int .i64 0, .int .i64 0, .string { data := #[] }, .string { data := #[] }, .int .i64 0, .int .i64 0, .int .i64 0, .int .i64 0, .string { data := #[] }, .string { data := #[] }, .string { data := #[] }, .int .i64 0, .string { data := #[] }, .int .i64 0], true⟩),
 (41,⟨.tuple #[36,3],1,0,.tuple #[.agg #[.string { data:=#[] },.string { data:=#[] },.int .i64 0,.int .i64 0,.int .i64 0,.int .i64 0,.string { data:=#[] }],.int .i64 0],false⟩),
 (42,⟨.func #[22,9,9,3] #[36,3] false,1,8,.nilFunc,false⟩),
 (43,⟨.func #[22,22] #[4] false,1,8,.nilFunc,false⟩),
 (46,⟨.slice 61,1,24,.slice none 0 0,false⟩),
 (47,⟨.slice 97,1,24,.slice none 0 0,false⟩),
 (48, ⟨.struct #[⟨ "ID", 9, 0, false, "", "", 0⟩, ⟨ "Version", 3, 1, false, "", "", 16⟩, ⟨ "Received", 3, 2, false, "", "", 24⟩, ⟨ "Kind", 3, 3, false, "", "", 32⟩, ⟨ "Messages", 22, 4, false, "", "", 40⟩, ⟨ "Rows", 46, 5, false, "", "", 64⟩, ⟨ "Rates", 47, 6, false, "", "", 88⟩], 7, 112, .agg #[.string { data := #[] }, .int .i64 0, .int .i64 0, .int .i64 0, .slice none 0 0, .slice none 0 0, .slice none 0 0], true⟩),
 (49, ⟨.struct #[⟨ "ID", 9, 0, false, "", "", 0⟩, ⟨ "Version", 3, 1, false, "", "", 16⟩, ⟨ "Received", 3, 2, false, "", "", 24⟩, ⟨ "Kind", 3, 3, false, "", "", 32⟩, ⟨ "Messages", 22, 4, false, "", "", 40⟩, ⟨ "Rows", 46, 5, false, "", "", 64⟩, ⟨ "Rates", 47, 6, false, "", "", 88⟩], 7, 112, .agg #[.string { data := #[] }, .int .i64 0, .int .i64 0, .int .i64 0, .slice none 0 0, .slice none 0 0, .slice none 0 0], true⟩),
 (50,⟨.func #[25] #[49] false,1,8,.nilFunc,false⟩),
 (51,⟨.slice 49,1,24,.slice none 0 0,false⟩),
 (52,⟨.func #[51] #[51] false,1,8,.nilFunc,false⟩),
 (53,⟨.int .i64,1,8,.int .i64 0,false⟩),
 (54,⟨.func #[49] #[53] false,1,8,.nilFunc,false⟩),
 (55,⟨.func #[49,23] #[4] false,1,8,.nilFunc,false⟩),
 (56,⟨.func #[] #[49] false,1,8,.nilFunc,false⟩),
 (57,⟨.func #[49] #[9] false,1,8,.nilFunc,false⟩),
 (59,⟨.func #[] #[40] false,1,8,.nilFunc,false⟩),
 (60, ⟨.struct #[⟨ "Outlet", 9, 0, false, "", "", 0⟩, ⟨ "Product", 9, 1, false, "", "", 16⟩, ⟨ "Period", 3, 2, false, "", "", 32⟩, ⟨ "Units", 2, 3, false, "", "", 40⟩, ⟨ "Turnover", 2, 4, false, "", "", 48⟩], 5, 56, .agg #[.string { data := #[] }, .string { data := #[] }, .int .i64 0, .int .i64 0, .int .i64 0], true⟩),
 (61, ⟨.struct #[⟨ "Outlet", 9, 0, false, "", "", 0⟩, ⟨ "Product", 9, 1, false, "", "", 16⟩, ⟨ "Period", 3, 2, false, "", "", 32⟩, ⟨ "Units", 2, 3, false, "", "", 40⟩, ⟨ "Turnover", 2, 4, false, "", "", 48⟩], 5, 56, .agg #[.string { data := #[] }, .string { data := #[] }, .int .i64 0, .int .i64 0, .int .i64 0], true⟩),
 (63,⟨.func #[23,3,3] #[4] false,1,8,.nilFunc,false⟩),
 (64,⟨.func #[25] #[51] false,1,8,.nilFunc,false⟩),
 (65,⟨.func #[51,51] #[4] false,1,8,.nilFunc,false⟩),
 (66,⟨.func #[51,23] #[4] false,1,8,.nilFunc,false⟩),
 (67,⟨.func #[3] #[3] false,1,8,.nilFunc,false⟩),
 (72,⟨.func #[51,3,3,23] #[4] false,1,8,.nilFunc,false⟩),
 (73,⟨.func #[25,51] #[51] false,1,8,.nilFunc,false⟩),
 (76,⟨.func #[46,46] #[4] false,1,8,.nilFunc,false⟩),
 (77,⟨.func #[51] #[46] false,1,8,.nilFunc,false⟩),
 (80,⟨.func #[3] #[22] false,1,8,.nilFunc,false⟩),
 (81,⟨.func #[25] #[40] false,1,8,.nilFunc,false⟩),
 (82, ⟨.struct #[⟨ "Device", 9, 0, false, "", "", 0⟩, ⟨ "Sequence", 3, 1, false, "", "", 16⟩], 2, 24, .agg #[.string { data := #[] }, .int .i64 0], true⟩),
 (83, ⟨.struct #[⟨ "Device", 9, 0, false, "", "", 0⟩, ⟨ "Sequence", 3, 1, false, "", "", 16⟩], 2, 24, .agg #[.string { data := #[] }, .int .i64 0], true⟩),
 (90,⟨.func #[40] #[4] false,1,8,.nilFunc,false⟩),
 (92,⟨.slice 9,1,24,.slice none 0 0,false⟩),
 (93,⟨.slice 115,1,24,.slice none 0 0,false⟩),
 (94, ⟨.struct #[⟨ "Standing", 2, 0, false, "", "", 0⟩, ⟨ "Blocks", 93, 1, false, "", "", 8⟩], 2, 32, .agg #[.int .i64 0, .slice none 0 0], true⟩),
 (95, ⟨.struct #[⟨ "Standing", 2, 0, false, "", "", 0⟩, ⟨ "Blocks", 93, 1, false, "", "", 8⟩], 2, 32, .agg #[.int .i64 0, .slice none 0 0], true⟩),
 (96, ⟨.struct #[⟨ "Outlet", 9, 0, false, "", "", 0⟩, ⟨ "Product", 9, 1, false, "", "", 16⟩, ⟨ "Period", 3, 2, false, "", "", 32⟩, ⟨ "Tariff", 95, 3, false, "", "", 40⟩], 5, 72, .agg #[.string { data := #[] }, .string { data := #[] }, .int .i64 0, .int .i64 0, .slice none 0 0], true⟩),
 (97, ⟨.struct #[⟨ "Outlet", 9, 0, false, "", "", 0⟩, ⟨ "Product", 9, 1, false, "", "", 16⟩, ⟨ "Period", 3, 2, false, "", "", 32⟩, ⟨ "Tariff", 95, 3, false, "", "", 40⟩], 5, 72, .agg #[.string { data := #[] }, .string { data := #[] }, .int .i64 0, .int .i64 0, .slice none 0 0], true⟩),
 (99,⟨.func #[49] #[4] false,1,8,.nilFunc,false⟩),
 (102,⟨.func #[97] #[4] false,1,8,.nilFunc,false⟩),
 (104,⟨.func #[] #[9] false,1,8,.nilFunc,false⟩),
 (106,⟨.pointer 109,1,8,.pointer none,false⟩),
 (107,⟨.slice 5,1,24,.slice none 0 0,false⟩),
 (109, ⟨.struct #[⟨ "addr", 106, 0, false, "", "strings", 0⟩, ⟨ "buf", 107, 1, false, "", "strings", 8⟩], 2, 32, .agg #[.pointer none, .slice none 0 0], true⟩),
 (111, ⟨.struct #[⟨ "Builder", 109, 0, true, "", "", 0⟩], 2, 32, .agg #[.pointer none, .slice none 0 0], true⟩),
 (115, ⟨.struct #[⟨ "UpTo", 2, 0, false, "", "", 0⟩, ⟨ "Price", 2, 1, false, "", "", 8⟩], 2, 16, .agg #[.int .i64 0, .int .i64 0], true⟩),
 (117,⟨.func #[147] #[9] true,1,8,.nilFunc,false⟩),
 (118,⟨.int .u64,1,8,.int .u64 0,false⟩),
 (121,⟨.map 9 49,1,8,.map none,false⟩),
 (125,⟨.func #[9,9] #[3] false,1,8,.nilFunc,false⟩),
 (127,⟨.func #[49,49] #[4] false,1,8,.nilFunc,false⟩),
 (132,⟨.map 9 3,1,8,.map none,false⟩),
 (135,⟨.map 9 4,1,8,.map none,false⟩),
 (141, ⟨.struct #[⟨ "outlet", 9, 0, false, "", "priceoffice/vintage", 0⟩, ⟨ "product", 9, 1, false, "", "priceoffice/vintage", 16⟩, ⟨ "period", 3, 2, false, "", "priceoffice/vintage", 32⟩], 3, 40, .agg #[.string { data := #[] }, .string { data := #[] }, .int .i64 0], true⟩),
 (143,⟨.func #[93] #[93] false,1,8,.nilFunc,false⟩),
 (147,⟨.slice 2,1,24,.slice none 0 0,false⟩),
 (148,⟨.func #[182] #[22] true,1,8,.nilFunc,false⟩),
 (150,⟨.func #[40,40] #[3] false,1,8,.nilFunc,false⟩),
 (158,⟨.pointer 111,1,8,.pointer none,false⟩),
 (159, ⟨.interface #[("Error", 104)], 1, 16, .nilIface, false⟩),
 (160, ⟨.interface #[("Error", 104)], 1, 16, .nilIface, false⟩),
 (164,⟨.pointer 5,1,8,.pointer none,false⟩),
 (167,⟨.func #[168] #[3] false,1,8,.nilFunc,false⟩),
 (168,⟨.int .u64,1,8,.int .u64 0,false⟩),
 (171,⟨.map 173 3,1,8,.map none,false⟩),
 (172, ⟨.struct #[⟨ "id", 9, 0, false, "", "priceoffice/vintage", 0⟩, ⟨ "version", 3, 1, false, "", "priceoffice/vintage", 16⟩], 2, 24, .agg #[.string { data := #[] }, .int .i64 0], true⟩),
 (173, ⟨.struct #[⟨ "id", 9, 0, false, "", "priceoffice/vintage", 0⟩, ⟨ "version", 3, 1, false, "", "priceoffice/vintage", 16⟩], 2, 24, .agg #[.string { data := #[] }, .int .i64 0], true⟩),
 (178,⟨.func #[46,179] #[] false,1,8,.nilFunc,false⟩),
 (179,⟨.func #[61,61] #[3] false,1,8,.nilFunc,false⟩),
 (182,⟨.slice 22,1,24,.slice none 0 0,false⟩),
 (185,⟨.func #[2,2] #[3] false,1,8,.nilFunc,false⟩),
 (187, ⟨.struct #[⟨ "Dimension", 3, 0, false, "", "", 0⟩, ⟨ "Count", 3, 1, false, "", "", 8⟩, ⟨ "Amount", 2, 2, false, "", "", 16⟩], 3, 24, .agg #[.int .i64 0, .int .i64 0, .int .i64 0], true⟩),
 (188,⟨.slice 218,1,24,.slice none 0 0,false⟩),
 (190, ⟨.struct #[⟨ "ID", 9, 0, false, "", "", 0⟩, ⟨ "Code", 9, 1, false, "", "", 16⟩, ⟨ "Brand", 9, 2, false, "", "", 32⟩, ⟨ "Size", 187, 3, false, "", "", 48⟩, ⟨ "Attributes", 188, 6, false, "", "", 72⟩], 7, 96, .agg #[.string { data := #[] }, .string { data := #[] }, .string { data := #[] }, .int .i64 0, .int .i64 0, .int .i64 0, .slice none 0 0], true⟩),
 (194,⟨.int .i64,1,8,.int .i64 0,false⟩),
 (201,⟨.int .u32,1,4,.int .u32 0,false⟩),
 (218, ⟨.struct #[⟨ "Name", 9, 0, false, "", "", 0⟩, ⟨ "Value", 9, 1, false, "", "", 16⟩], 2, 32, .agg #[.string { data := #[] }, .string { data := #[] }], true⟩),
 (220,⟨.unsafePointer,1,8,.pointer none,false⟩),
 (221,⟨.func #[220] #[220] false,1,8,.nilFunc,false⟩),
 (222,⟨.array 24 5,24,24,.agg #[.int .u8 0,.int .u8 0,.int .u8 0,.int .u8 0,.int .u8 0,.int .u8 0,.int .u8 0,.int .u8 0,.int .u8 0,.int .u8 0,.int .u8 0,.int .u8 0,.int .u8 0,.int .u8 0,.int .u8 0,.int .u8 0,.int .u8 0,.int .u8 0,.int .u8 0,.int .u8 0,.int .u8 0,.int .u8 0,.int .u8 0,.int .u8 0],false⟩),
 (226,⟨.int .u64,1,8,.int .u64 0,false⟩),
 (230,⟨.pointer 3,1,8,.pointer none,false⟩),
 (246,⟨.func #[21] #[4] false,1,8,.nilFunc,false⟩),
 (248,⟨.array 20 118,20,160,.agg #[.int .u64 0,.int .u64 0,.int .u64 0,.int .u64 0,.int .u64 0,.int .u64 0,.int .u64 0,.int .u64 0,.int .u64 0,.int .u64 0,.int .u64 0,.int .u64 0,.int .u64 0,.int .u64 0,.int .u64 0,.int .u64 0,.int .u64 0,.int .u64 0,.int .u64 0,.int .u64 0],false⟩),
 (249,⟨.array 65 5,65,65,.agg ([.int .u8 0,.int .u8 0,.int .u8 0,.int .u8 0,.int .u8 0,.int .u8 0,.int .u8 0,.int .u8 0,.int .u8 0,.int .u8 0,.int .u8 0,.int .u8 0,.int .u8 0,.int .u8 0,.int .u8 0,.int .u8 0,.int .u8 0,.int .u8 0,.int .u8 0,.int .u8 0,.int .u8 0,.int .u8 0,.int .u8 0,.int .u8 0,.int .u8 0,.int .u8 0,.int .u8 0,.int .u8 0,.int .u8 0,.int .u8 0,.int .u8 0,.int .u8 0].append [.int .u8 0,.int .u8 0,.int .u8 0,.int .u8 0,.int .u8 0,.int .u8 0,.int .u8 0,.int .u8 0,.int .u8 0,.int .u8 0,.int .u8 0,.int .u8 0,.int .u8 0,.int .u8 0,.int .u8 0,.int .u8 0,.int .u8 0,.int .u8 0,.int .u8 0,.int .u8 0,.int .u8 0,.int .u8 0,.int .u8 0,.int .u8 0,.int .u8 0,.int .u8 0,.int .u8 0,.int .u8 0,.int .u8 0,.int .u8 0,.int .u8 0,.int .u8 0,.int .u8 0]).toArray,false⟩),
 (250,⟨.pointer 226,1,8,.pointer none,false⟩),
 (256,⟨.func #[22,3,3,230,150] #[3,3] false,1,8,.nilFunc,false⟩),
 (266,⟨.pointer 262,1,8,.pointer none,false⟩),
 (278,⟨.array 32 5,32,32,.agg #[.int .u8 0,.int .u8 0,.int .u8 0,.int .u8 0,.int .u8 0,.int .u8 0,.int .u8 0,.int .u8 0,.int .u8 0,.int .u8 0,.int .u8 0,.int .u8 0,.int .u8 0,.int .u8 0,.int .u8 0,.int .u8 0,.int .u8 0,.int .u8 0,.int .u8 0,.int .u8 0,.int .u8 0,.int .u8 0,.int .u8 0,.int .u8 0,.int .u8 0,.int .u8 0,.int .u8 0,.int .u8 0,.int .u8 0,.int .u8 0,.int .u8 0,.int .u8 0],false⟩),
 (279,⟨.array 64 5,64,64,.agg #[.int .u8 0,.int .u8 0,.int .u8 0,.int .u8 0,.int .u8 0,.int .u8 0,.int .u8 0,.int .u8 0,.int .u8 0,.int .u8 0,.int .u8 0,.int .u8 0,.int .u8 0,.int .u8 0,.int .u8 0,.int .u8 0,.int .u8 0,.int .u8 0,.int .u8 0,.int .u8 0,.int .u8 0,.int .u8 0,.int .u8 0,.int .u8 0,.int .u8 0,.int .u8 0,.int .u8 0,.int .u8 0,.int .u8 0,.int .u8 0,.int .u8 0,.int .u8 0,.int .u8 0,.int .u8 0,.int .u8 0,.int .u8 0,.int .u8 0,.int .u8 0,.int .u8 0,.int .u8 0,.int .u8 0,.int .u8 0,.int .u8 0,.int .u8 0,.int .u8 0,.int .u8 0,.int .u8 0,.int .u8 0,.int .u8 0,.int .u8 0,.int .u8 0,.int .u8 0,.int .u8 0,.int .u8 0,.int .u8 0,.int .u8 0,.int .u8 0,.int .u8 0,.int .u8 0,.int .u8 0,.int .u8 0,.int .u8 0,.int .u8 0,.int .u8 0],false⟩),
 (281,⟨.int .i64,1,8,.int .i64 0,false⟩),
 (284,⟨.pointer 291,1,8,.pointer none,false⟩),
 (291, ⟨.struct #[⟨ "Func", 9, 0, false, "", "", 0⟩, ⟨ "Num", 9, 1, false, "", "", 16⟩, ⟨ "Err", 160, 2, false, "", "", 32⟩], 3, 48, .agg #[.string { data := #[] }, .string { data := #[] }, .nilIface], false⟩),
 (295, ⟨.struct #[⟨ "lo", 5, 0, false, "", "unicode/utf8", 0⟩, ⟨ "hi", 5, 1, false, "", "unicode/utf8", 1⟩], 2, 2, .agg #[.int .u8 0, .int .u8 0], true⟩),
 (296,⟨.array 16 295,32,32,.agg #[.int .u8 0,.int .u8 0,.int .u8 0,.int .u8 0,.int .u8 0,.int .u8 0,.int .u8 0,.int .u8 0,.int .u8 0,.int .u8 0,.int .u8 0,.int .u8 0,.int .u8 0,.int .u8 0,.int .u8 0,.int .u8 0,.int .u8 0,.int .u8 0,.int .u8 0,.int .u8 0,.int .u8 0,.int .u8 0,.int .u8 0,.int .u8 0,.int .u8 0,.int .u8 0,.int .u8 0,.int .u8 0,.int .u8 0,.int .u8 0,.int .u8 0,.int .u8 0],false⟩),
 (298,⟨.pointer 300,1,8,.pointer none,false⟩),
 (300, ⟨.struct #[⟨ "s", 9, 0, false, "", "errors", 0⟩], 1, 16, .agg #[.string { data := #[] }], true⟩),
 (304, ⟨.struct #[⟨ "_interface", 17, 0, false, "", "runtime", 0⟩, ⟨ "concrete", 17, 1, false, "", "runtime", 8⟩, ⟨ "asserted", 17, 2, false, "", "runtime", 16⟩, ⟨ "missingMethod", 9, 3, false, "", "runtime", 24⟩], 4, 40, .agg #[.pointer none, .pointer none, .pointer none, .string { data := #[] }], false⟩),
 (305,⟨.array 0 16,0,0,.agg #[],false⟩),
 (307, ⟨.struct #[⟨ "_", 305, 0, false, "", "runtime", 0⟩], 0, 0, .agg #[], false⟩),
 (309,⟨.int .u8,1,1,.int .u8 0,false⟩),
 (310,⟨.int .u8,1,1,.int .u8 0,false⟩),
 (311,⟨.func #[220,220] #[4] false,1,8,.nilFunc,false⟩),
 (312,⟨.int .i32,1,4,.int .i32 0,false⟩),
 (313,⟨.int .i32,1,4,.int .i32 0,false⟩),
 (315, ⟨.struct #[⟨ "Size_", 12, 0, false, "", "", 0⟩, ⟨ "PtrBytes", 12, 1, false, "", "", 8⟩, ⟨ "Hash", 201, 2, false, "", "", 16⟩, ⟨ "TFlag", 309, 3, false, "", "", 20⟩, ⟨ "Align_", 5, 4, false, "", "", 21⟩, ⟨ "FieldAlign_", 5, 5, false, "", "", 22⟩, ⟨ "Kind_", 310, 6, false, "", "", 23⟩, ⟨ "Equal", 311, 7, false, "", "", 24⟩, ⟨ "GCData", 164, 8, false, "", "", 32⟩, ⟨ "Str", 312, 9, false, "", "", 40⟩, ⟨ "PtrToThis", 313, 10, false, "", "", 44⟩], 11, 48, .agg #[.int .u64 0, .int .u64 0, .int .u32 0, .int .u8 0, .int .u8 0, .int .u8 0, .int .u8 0, .nilFunc, .pointer none, .int .i32 0, .int .i32 0], false⟩)]
theorem te_ok:TE.ok Tryz.prog te:=by
 refine TE.ok_cons Tryz.underlying0 ⟨_,Tryz.type0,rfl,rfl,rfl⟩ nofun ?_;refine TE.ok_cons Tryz.underlying1 ⟨_,Tryz.type1,rfl,rfl,rfl⟩ nofun ?_;refine TE.ok_cons Tryz.underlying2 ⟨_,Tryz.type2,rfl,rfl,rfl⟩ nofun ?_;refine TE.ok_cons Tryz.underlying3 ⟨_,Tryz.type3,rfl,rfl,rfl⟩ nofun ?_;refine TE.ok_cons Tryz.underlying4 ⟨_,Tryz.type4,rfl,rfl,rfl⟩ nofun ?_;refine TE.ok_cons Tryz.underlying5 ⟨_,Tryz.type5,rfl,rfl,rfl⟩ nofun ?_;refine TE.ok_cons Tryz.underlying6 ⟨_,Tryz.type6,rfl,rfl,rfl⟩ nofun ?_;refine TE.ok_cons Tryz.underlying7 ⟨Tryz.t7,Tryz.type7,rfl,rfl,rfl⟩ (λ_=>⟨Tryz.stoodInHeld7,Tryz.eqGuardType7,λfs h f hf=>by cases h;revert f;decide⟩) ?_;refine TE.ok_cons Tryz.underlying8 ⟨Tryz.t8,Tryz.type8,rfl,rfl,rfl⟩ (λ_=>⟨Tryz.stoodInHeld8,Tryz.eqGuardType8,λfs h f hf=>by cases h;revert f;decide⟩) ?_;refine TE.ok_cons Tryz.underlying9 ⟨_,Tryz.type9,rfl,rfl,rfl⟩ nofun ?_;refine TE.ok_cons Tryz.underlying10 ⟨_,Tryz.type10,rfl,rfl,rfl⟩ nofun ?_;refine TE.ok_cons Tryz.underlying11 ⟨_,Tryz.type11,rfl,rfl,rfl⟩ nofun ?_;refine TE.ok_cons Tryz.underlying12 ⟨_,Tryz.type12,rfl,rfl,rfl⟩ nofun ?_;refine TE.ok_cons Tryz.underlying14 ⟨_,Tryz.type14,rfl,rfl,rfl⟩ nofun ?_;refine TE.ok_cons Tryz.underlying15 ⟨_,Tryz.type15,rfl,rfl,rfl⟩ nofun ?_;refine TE.ok_cons Tryz.underlying16 ⟨_,Tryz.type16,rfl,rfl,rfl⟩ nofun ?_;refine TE.ok_cons Tryz.underlying17 ⟨_,Tryz.type17,rfl,rfl,rfl⟩ nofun ?_;refine TE.ok_cons Tryz.underlying18 ⟨_,Tryz.type18,rfl,rfl,rfl⟩ nofun ?_;refine TE.ok_cons Tryz.underlying19 ⟨_,Tryz.type19,rfl,rfl,rfl⟩ nofun ?_;refine TE.ok_cons Tryz.underlying20 ⟨_,Tryz.type20,rfl,rfl,rfl⟩ nofun ?_;refine TE.ok_cons Tryz.underlying21 ⟨_,Tryz.type21,rfl,rfl,rfl⟩ nofun ?_;refine TE.ok_cons Tryz.underlying22 ⟨_,Tryz.type22,rfl,rfl,rfl⟩ nofun ?_;refine TE.ok_cons Tryz.underlying23 ⟨_,Tryz.type23,rfl,rfl,rfl⟩ nofun ?_;refine TE.ok_cons Tryz.underlying24 ⟨_,Tryz.type24,rfl,rfl,rfl⟩ nofun ?_;refine TE.ok_cons Tryz.underlying25 ⟨_,Tryz.type25,rfl,rfl,rfl⟩ nofun ?_;refine TE.ok_cons Tryz.underlying26 ⟨Tryz.t26,Tryz.type26,rfl,rfl,rfl⟩ (λ_=>⟨Tryz.stoodInHeld26,Tryz.eqGuardType26,λfs h f hf=>by cases h;revert f;decide⟩) ?_;refine TE.ok_cons Tryz.underlying27 ⟨Tryz.t27,Tryz.type27,rfl,rfl,rfl⟩ (λ_=>⟨Tryz.stoodInHeld27,Tryz.eqGuardType27,λfs h f hf=>by cases h;revert f;decide⟩) ?_;refine TE.ok_cons Tryz.underlying28 ⟨_,Tryz.type28,rfl,rfl,rfl⟩ nofun ?_;refine TE.ok_cons Tryz.underlying30 ⟨_,Tryz.type30,rfl,rfl,rfl⟩ nofun ?_;refine TE.ok_cons Tryz.underlying31 ⟨_,Tryz.type31,rfl,rfl,rfl⟩ nofun ?_;refine TE.ok_cons Tryz.underlying32 ⟨_,Tryz.type32,rfl,rfl,rfl⟩ nofun ?_;refine TE.ok_cons Tryz.underlying33 ⟨_,Tryz.type33,rfl,rfl,rfl⟩ nofun ?_;refine TE.ok_cons Tryz.underlying34 ⟨_,Tryz.type34,rfl,rfl,rfl⟩ nofun ?_;refine TE.ok_cons Tryz.underlying36 ⟨Tryz.t36,Tryz.type36,rfl,rfl,rfl⟩ (λ_=>⟨Tryz.stoodInHeld36,Tryz.eqGuardType36,λfs h f hf=>by cases h;revert f;decide⟩) ?_;refine TE.ok_cons Tryz.underlying37 ⟨Tryz.t37,Tryz.type37,rfl,rfl,rfl⟩ (λ_=>⟨Tryz.stoodInHeld37,Tryz.eqGuardType37,λfs h f hf=>by cases h;revert f;decide⟩) ?_;refine TE.ok_cons Tryz.underlying38 ⟨Tryz.t38,Tryz.type38,rfl,rfl,rfl⟩ (λ_=>⟨Tryz.stoodInHeld38,Tryz.eqGuardType38,λfs h f hf=>by cases h;revert f;decide⟩) ?_;refine TE.ok_cons Tryz.underlying39 ⟨Tryz.t39,Tryz.type39,rfl,rfl,rfl⟩ (λ_=>⟨Tryz.stoodInHeld39,Tryz.eqGuardType39,λfs h f hf=>by cases h;revert f;decide⟩) ?_;refine TE.ok_cons Tryz.underlying40 ⟨Tryz.t40,Tryz.type40,rfl,rfl,rfl⟩ (λ_=>⟨Tryz.stoodInHeld40,Tryz.eqGuardType40,λfs h f hf=>by cases h;revert f;decide⟩) ?_;refine TE.ok_cons Tryz.underlying41 ⟨_,Tryz.type41,rfl,rfl,rfl⟩ nofun ?_;refine TE.ok_cons Tryz.underlying42 ⟨_,Tryz.type42,rfl,rfl,rfl⟩ nofun ?_;refine TE.ok_cons Tryz.underlying43 ⟨_,Tryz.type43,rfl,rfl,rfl⟩ nofun ?_;refine TE.ok_cons Tryz.underlying46 ⟨_,Tryz.type46,rfl,rfl,rfl⟩ nofun ?_;refine TE.ok_cons Tryz.underlying47 ⟨_,Tryz.type47,rfl,rfl,rfl⟩ nofun ?_;refine TE.ok_cons Tryz.underlying48 ⟨Tryz.t48,Tryz.type48,rfl,rfl,rfl⟩ (λ_=>⟨Tryz.stoodInHeld48,Tryz.eqGuardType48,λfs h f hf=>by cases h;revert f;decide⟩) ?_;refine TE.ok_cons Tryz.underlying49 ⟨Tryz.t49,Tryz.type49,rfl,rfl,rfl⟩ (λ_=>⟨Tryz.stoodInHeld49,Tryz.eqGuardType49,λfs h f hf=>by cases h;revert f;decide⟩) ?_;refine TE.ok_cons Tryz.underlying50 ⟨_,Tryz.type50,rfl,rfl,rfl⟩ nofun ?_;refine TE.ok_cons Tryz.underlying51 ⟨_,Tryz.type51,rfl,rfl,rfl⟩ nofun ?_;refine TE.ok_cons Tryz.underlying52 ⟨_,Tryz.type52,rfl,rfl,rfl⟩ nofun ?_;refine TE.ok_cons Tryz.underlying53 ⟨_,Tryz.type53,rfl,rfl,rfl⟩ nofun ?_;refine TE.ok_cons Tryz.underlying54 ⟨_,Tryz.type54,rfl,rfl,rfl⟩ nofun ?_;refine TE.ok_cons Tryz.underlying55 ⟨_,Tryz.type55,rfl,rfl,rfl⟩ nofun ?_;refine TE.ok_cons Tryz.underlying56 ⟨_,Tryz.type56,rfl,rfl,rfl⟩ nofun ?_;refine TE.ok_cons Tryz.underlying57 ⟨_,Tryz.type57,rfl,rfl,rfl⟩ nofun ?_;refine TE.ok_cons Tryz.underlying59 ⟨_,Tryz.type59,rfl,rfl,rfl⟩ nofun ?_;refine TE.ok_cons Tryz.underlying60 ⟨Tryz.t60,Tryz.type60,rfl,rfl,rfl⟩ (λ_=>⟨Tryz.stoodInHeld60,Tryz.eqGuardType60,λfs h f hf=>by cases h;revert f;decide⟩) ?_;refine TE.ok_cons Tryz.underlying61 ⟨Tryz.t61,Tryz.type61,rfl,rfl,rfl⟩ (λ_=>⟨Tryz.stoodInHeld61,Tryz.eqGuardType61,λfs h f hf=>by cases h;revert f;decide⟩) ?_;refine TE.ok_cons Tryz.underlying63 ⟨_,Tryz.type63,rfl,rfl,rfl⟩ nofun ?_;refine TE.ok_cons Tryz.underlying64 ⟨_,Tryz.type64,rfl,rfl,rfl⟩ nofun ?_;refine TE.ok_cons Tryz.underlying65 ⟨_,Tryz.type65,rfl,rfl,rfl⟩ nofun ?_;refine TE.ok_cons Tryz.underlying66 ⟨_,Tryz.type66,rfl,rfl,rfl⟩ nofun ?_;refine TE.ok_cons Tryz.underlying67 ⟨_,Tryz.type67,rfl,rfl,rfl⟩ nofun ?_;refine TE.ok_cons Tryz.underlying72 ⟨_,Tryz.type72,rfl,rfl,rfl⟩ nofun ?_;refine TE.ok_cons Tryz.underlying73 ⟨_,Tryz.type73,rfl,rfl,rfl⟩ nofun ?_;refine TE.ok_cons Tryz.underlying76 ⟨_,Tryz.type76,rfl,rfl,rfl⟩ nofun ?_;refine TE.ok_cons Tryz.underlying77 ⟨_,Tryz.type77,rfl,rfl,rfl⟩ nofun ?_;refine TE.ok_cons Tryz.underlying80 ⟨_,Tryz.type80,rfl,rfl,rfl⟩ nofun ?_;refine TE.ok_cons Tryz.underlying81 ⟨_,Tryz.type81,rfl,rfl,rfl⟩ nofun ?_;refine TE.ok_cons Tryz.underlying82 ⟨Tryz.t82,Tryz.type82,rfl,rfl,rfl⟩ (λ_=>⟨Tryz.stoodInHeld82,Tryz.eqGuardType82,λfs h f hf=>by cases h;revert f;decide⟩) ?_;refine TE.ok_cons Tryz.underlying83 ⟨Tryz.t83,Tryz.type83,rfl,rfl,rfl⟩ (λ_=>⟨Tryz.stoodInHeld83,Tryz.eqGuardType83,λfs h f hf=>by cases h;revert f;decide⟩) ?_;refine TE.ok_cons Tryz.underlying90 ⟨_,Tryz.type90,rfl,rfl,rfl⟩ nofun ?_;refine TE.ok_cons Tryz.underlying92 ⟨_,Tryz.type92,rfl,rfl,rfl⟩ nofun ?_;refine TE.ok_cons Tryz.underlying93 ⟨_,Tryz.type93,rfl,rfl,rfl⟩ nofun ?_;refine TE.ok_cons Tryz.underlying94 ⟨Tryz.t94,Tryz.type94,rfl,rfl,rfl⟩ (λ_=>⟨Tryz.stoodInHeld94,Tryz.eqGuardType94,λfs h f hf=>by cases h;revert f;decide⟩) ?_;refine TE.ok_cons Tryz.underlying95 ⟨Tryz.t95,Tryz.type95,rfl,rfl,rfl⟩ (λ_=>⟨Tryz.stoodInHeld95,Tryz.eqGuardType95,λfs h f hf=>by cases h;revert f;decide⟩) ?_;refine TE.ok_cons Tryz.underlying96 ⟨Tryz.t96,Tryz.type96,rfl,rfl,rfl⟩ (λ_=>⟨Tryz.stoodInHeld96,Tryz.eqGuardType96,λfs h f hf=>by cases h;revert f;decide⟩) ?_;refine TE.ok_cons Tryz.underlying97 ⟨Tryz.t97,Tryz.type97,rfl,rfl,rfl⟩ (λ_=>⟨Tryz.stoodInHeld97,Tryz.eqGuardType97,λfs h f hf=>by cases h;revert f;decide⟩) ?_;refine TE.ok_cons Tryz.underlying99 ⟨_,Tryz.type99,rfl,rfl,rfl⟩ nofun ?_;refine TE.ok_cons Tryz.underlying102 ⟨_,Tryz.type102,rfl,rfl,rfl⟩ nofun ?_;refine TE.ok_cons Tryz.underlying104 ⟨_,Tryz.type104,rfl,rfl,rfl⟩ nofun ?_;refine TE.ok_cons Tryz.underlying106 ⟨_,Tryz.type106,rfl,rfl,rfl⟩ nofun ?_;refine TE.ok_cons Tryz.underlying107 ⟨_,Tryz.type107,rfl,rfl,rfl⟩ nofun ?_;refine TE.ok_cons Tryz.underlying109 ⟨Tryz.t109,Tryz.type109,rfl,rfl,rfl⟩ (λ_=>⟨Tryz.stoodInHeld109,Tryz.eqGuardType109,λfs h f hf=>by cases h;revert f;decide⟩) ?_;refine TE.ok_cons Tryz.underlying111 ⟨Tryz.t111,Tryz.type111,rfl,rfl,rfl⟩ (λ_=>⟨Tryz.stoodInHeld111,Tryz.eqGuardType111,λfs h f hf=>by cases h;revert f;decide⟩) ?_;refine TE.ok_cons Tryz.underlying115 ⟨Tryz.t115,Tryz.type115,rfl,rfl,rfl⟩ (λ_=>⟨Tryz.stoodInHeld115,Tryz.eqGuardType115,λfs h f hf=>by cases h;revert f;decide⟩) ?_;refine TE.ok_cons Tryz.underlying117 ⟨_,Tryz.type117,rfl,rfl,rfl⟩ nofun ?_;refine TE.ok_cons Tryz.underlying118 ⟨_,Tryz.type118,rfl,rfl,rfl⟩ nofun ?_;refine TE.ok_cons Tryz.underlying121 ⟨_,Tryz.type121,rfl,rfl,rfl⟩ nofun ?_;refine TE.ok_cons Tryz.underlying125 ⟨_,Tryz.type125,rfl,rfl,rfl⟩ nofun ?_;refine TE.ok_cons Tryz.underlying127 ⟨_,Tryz.type127,rfl,rfl,rfl⟩ nofun ?_;refine TE.ok_cons Tryz.underlying132 ⟨_,Tryz.type132,rfl,rfl,rfl⟩ nofun ?_;refine TE.ok_cons Tryz.underlying135 ⟨_,Tryz.type135,rfl,rfl,rfl⟩ nofun ?_;refine TE.ok_cons Tryz.underlying141 ⟨Tryz.t141,Tryz.type141,rfl,rfl,rfl⟩ (λ_=>⟨Tryz.stoodInHeld141,Tryz.eqGuardType141,λfs h f hf=>by cases h;revert f;decide⟩) ?_;refine TE.ok_cons Tryz.underlying143 ⟨_,Tryz.type143,rfl,rfl,rfl⟩ nofun ?_;refine TE.ok_cons Tryz.underlying147 ⟨_,Tryz.type147,rfl,rfl,rfl⟩ nofun ?_;refine TE.ok_cons Tryz.underlying148 ⟨_,Tryz.type148,rfl,rfl,rfl⟩ nofun ?_;refine TE.ok_cons Tryz.underlying150 ⟨_,Tryz.type150,rfl,rfl,rfl⟩ nofun ?_;refine TE.ok_cons Tryz.underlying158 ⟨_,Tryz.type158,rfl,rfl,rfl⟩ nofun ?_;refine TE.ok_cons Tryz.underlying159 ⟨_,Tryz.type159,rfl,rfl,rfl⟩ nofun ?_;refine TE.ok_cons Tryz.underlying160 ⟨_,Tryz.type160,rfl,rfl,rfl⟩ nofun ?_;refine TE.ok_cons Tryz.underlying164 ⟨_,Tryz.type164,rfl,rfl,rfl⟩ nofun ?_;refine TE.ok_cons Tryz.underlying167 ⟨_,Tryz.type167,rfl,rfl,rfl⟩ nofun ?_;refine TE.ok_cons Tryz.underlying168 ⟨_,Tryz.type168,rfl,rfl,rfl⟩ nofun ?_;refine TE.ok_cons Tryz.underlying171 ⟨_,Tryz.type171,rfl,rfl,rfl⟩ nofun ?_;refine TE.ok_cons Tryz.underlying172 ⟨Tryz.t172,Tryz.type172,rfl,rfl,rfl⟩ (λ_=>⟨Tryz.stoodInHeld172,Tryz.eqGuardType172,λfs h f hf=>by cases h;revert f;decide⟩) ?_;refine TE.ok_cons Tryz.underlying173 ⟨Tryz.t173,Tryz.type173,rfl,rfl,rfl⟩ (λ_=>⟨Tryz.stoodInHeld173,Tryz.eqGuardType173,λfs h f hf=>by cases h;revert f;decide⟩) ?_;refine TE.ok_cons Tryz.underlying178 ⟨_,Tryz.type178,rfl,rfl,rfl⟩ nofun ?_;refine TE.ok_cons Tryz.underlying179 ⟨_,Tryz.type179,rfl,rfl,rfl⟩ nofun ?_;refine TE.ok_cons Tryz.underlying182 ⟨_,Tryz.type182,rfl,rfl,rfl⟩ nofun ?_;refine TE.ok_cons Tryz.underlying185 ⟨_,Tryz.type185,rfl,rfl,rfl⟩ nofun ?_;refine TE.ok_cons Tryz.underlying187 ⟨Tryz.t187,Tryz.type187,rfl,rfl,rfl⟩ (λ_=>⟨Tryz.stoodInHeld187,Tryz.eqGuardType187,λfs h f hf=>by cases h;revert f;decide⟩) ?_;refine TE.ok_cons Tryz.underlying188 ⟨_,Tryz.type188,rfl,rfl,rfl⟩ nofun ?_;refine TE.ok_cons Tryz.underlying190 ⟨Tryz.t190,Tryz.type190,rfl,rfl,rfl⟩ (λ_=>⟨Tryz.stoodInHeld190,Tryz.eqGuardType190,λfs h f hf=>by cases h;revert f;decide⟩) ?_;refine TE.ok_cons Tryz.underlying194 ⟨_,Tryz.type194,rfl,rfl,rfl⟩ nofun ?_;refine TE.ok_cons Tryz.underlying201 ⟨_,Tryz.type201,rfl,rfl,rfl⟩ nofun ?_;refine TE.ok_cons Tryz.underlying218 ⟨Tryz.t218,Tryz.type218,rfl,rfl,rfl⟩ (λ_=>⟨Tryz.stoodInHeld218,Tryz.eqGuardType218,λfs h f hf=>by cases h;revert f;decide⟩) ?_;refine TE.ok_cons Tryz.underlying220 ⟨_,Tryz.type220,rfl,rfl,rfl⟩ nofun ?_;refine TE.ok_cons Tryz.underlying221 ⟨_,Tryz.type221,rfl,rfl,rfl⟩ nofun ?_;refine TE.ok_cons Tryz.underlying222 ⟨_,Tryz.type222,rfl,rfl,rfl⟩ nofun ?_;refine TE.ok_cons Tryz.underlying226 ⟨_,Tryz.type226,rfl,rfl,rfl⟩ nofun ?_;refine TE.ok_cons Tryz.underlying230 ⟨_,Tryz.type230,rfl,rfl,rfl⟩ nofun ?_;refine TE.ok_cons Tryz.underlying246 ⟨_,Tryz.type246,rfl,rfl,rfl⟩ nofun ?_;refine TE.ok_cons Tryz.underlying248 ⟨_,Tryz.type248,rfl,rfl,rfl⟩ nofun ?_;refine TE.ok_cons Tryz.underlying249 ⟨_,Tryz.type249,rfl,rfl,rfl⟩ nofun ?_;refine TE.ok_cons Tryz.underlying250 ⟨_,Tryz.type250,rfl,rfl,rfl⟩ nofun ?_;refine TE.ok_cons Tryz.underlying256 ⟨_,Tryz.type256,rfl,rfl,rfl⟩ nofun ?_;refine TE.ok_cons Tryz.underlying266 ⟨_,Tryz.type266,rfl,rfl,rfl⟩ nofun ?_;refine TE.ok_cons Tryz.underlying278 ⟨_,Tryz.type278,rfl,rfl,rfl⟩ nofun ?_;refine TE.ok_cons Tryz.underlying279 ⟨_,Tryz.type279,rfl,rfl,rfl⟩ nofun ?_;refine TE.ok_cons Tryz.underlying281 ⟨_,Tryz.type281,rfl,rfl,rfl⟩ nofun ?_;refine TE.ok_cons Tryz.underlying284 ⟨_,Tryz.type284,rfl,rfl,rfl⟩ nofun ?_;refine TE.ok_cons Tryz.underlying291 ⟨_,Tryz.type291,rfl,rfl,rfl⟩ nofun ?_;refine TE.ok_cons Tryz.underlying295 ⟨Tryz.t295,Tryz.type295,rfl,rfl,rfl⟩ (λ_=>⟨Tryz.stoodInHeld295,Tryz.eqGuardType295,λfs h f hf=>by cases h;revert f;decide⟩) ?_;refine TE.ok_cons Tryz.underlying296 ⟨_,Tryz.type296,rfl,rfl,rfl⟩ nofun ?_;refine TE.ok_cons Tryz.underlying298 ⟨_,Tryz.type298,rfl,rfl,rfl⟩ nofun ?_;refine TE.ok_cons Tryz.underlying300 ⟨Tryz.t300,Tryz.type300,rfl,rfl,rfl⟩ (λ_=>⟨Tryz.stoodInHeld300,Tryz.eqGuardType300,λfs h f hf=>by cases h;revert f;decide⟩) ?_;refine TE.ok_cons Tryz.underlying304 ⟨_,Tryz.type304,rfl,rfl,rfl⟩ nofun ?_;refine TE.ok_cons Tryz.underlying305 ⟨_,Tryz.type305,rfl,rfl,rfl⟩ nofun ?_;refine TE.ok_cons Tryz.underlying307 ⟨_,Tryz.type307,rfl,rfl,rfl⟩ nofun ?_;refine TE.ok_cons Tryz.underlying309 ⟨_,Tryz.type309,rfl,rfl,rfl⟩ nofun ?_;refine TE.ok_cons Tryz.underlying310 ⟨_,Tryz.type310,rfl,rfl,rfl⟩ nofun ?_;refine TE.ok_cons Tryz.underlying311 ⟨_,Tryz.type311,rfl,rfl,rfl⟩ nofun ?_;refine TE.ok_cons Tryz.underlying312 ⟨_,Tryz.type312,rfl,rfl,rfl⟩ nofun ?_;refine TE.ok_cons Tryz.underlying313 ⟨_,Tryz.type313,rfl,rfl,rfl⟩ nofun ?_;refine TE.ok_cons Tryz.underlying315 ⟨_,Tryz.type315,rfl,rfl,rfl⟩ nofun ?_;exact TE.ok_nil
set_option maxRecDepth 100000 in
theorem te_one:∀t ti,lk te t=some ti->wa7 ti.desc=false->ti.sz=1:=TE.one_of (by rfl)
def wb0:List AV:=(List.flatten (List.replicate (nat_lit 0) [.int .i64 0]))
def wcp:List AV:=(List.flatten (List.replicate (nat_lit 0) [.str ([])]))
def wbi : TI := (TI.mk (TypeDesc.struct #[Field.mk "ID" (9 : TypeId) 0 false "" "" 0, Field.mk "Version" (3 : TypeId) 1 false "" "" 16, Field.mk "Received" (3 : TypeId) 2 false "" "" 24, Field.mk "Kind" (3 : TypeId) 3 false "" "" 32, Field.mk "Messages" (22 : TypeId) 4 false "" "" 40, Field.mk "Rows" (46 : TypeId) 5 false "" "" 64, Field.mk "Rates" (47 : TypeId) 6 false "" "" 88]) 7 112 (Value.agg #[Value.string (ByteArray.mk #[]), Value.int IntKind.i64 0, Value.int IntKind.i64 0, Value.int IntKind.i64 0, Value.slice none 0 0, Value.slice none 0 0, Value.slice none 0 0]) true)
def wc7 : TI := (TI.mk (TypeDesc.struct #[Field.mk "Outlet" (9 : TypeId) 0 false "" "" 0, Field.mk "Product" (9 : TypeId) 1 false "" "" 16, Field.mk "Period" (3 : TypeId) 2 false "" "" 32, Field.mk "Units" (2 : TypeId) 3 false "" "" 40, Field.mk "Turnover" (2 : TypeId) 4 false "" "" 48]) 5 56 (Value.agg #[Value.string (ByteArray.mk #[]), Value.string (ByteArray.mk #[]), Value.int IntKind.i64 0, Value.int IntKind.i64 0, Value.int IntKind.i64 0]) true)
def wco:List AV:=(List.flatten (List.replicate (nat_lit 0) [.str ([]),.int .i64 0,.int .i64 0,.int .i64 0,.nil,.nil,.nil]))
def wff:List AV:=(List.flatten (List.replicate (nat_lit 0) [.str ([]),.str ([]),.int .i64 0,.int .i64 0,.int .i64 0]))
def we0 : TI := (TI.mk (TypeDesc.struct #[Field.mk "Device" (9 : TypeId) 0 false "" "" 0, Field.mk "Sequence" (3 : TypeId) 1 false "" "" 16, Field.mk "Kind" (3 : TypeId) 2 false "" "" 24, Field.mk "Visit" (36 : TypeId) 3 false "" "" 32, Field.mk "Decision" (38 : TypeId) 10 false "" "" 112]) 15 176 (Value.agg #[Value.string (ByteArray.mk #[]), Value.int IntKind.i64 0, Value.int IntKind.i64 0, Value.string (ByteArray.mk #[]), Value.string (ByteArray.mk #[]), Value.int IntKind.i64 0, Value.int IntKind.i64 0, Value.int IntKind.i64 0, Value.int IntKind.i64 0, Value.string (ByteArray.mk #[]), Value.string (ByteArray.mk #[]), Value.string (ByteArray.mk #[]), Value.int IntKind.i64 0, Value.string (ByteArray.mk #[]), Value.int IntKind.i64 0]) true)
def wez : TI := (TI.mk (TypeDesc.struct #[Field.mk "Outlet" (9 : TypeId) 0 false "" "" 0, Field.mk "Product" (9 : TypeId) 1 false "" "" 16, Field.mk "Period" (3 : TypeId) 2 false "" "" 32, Field.mk "Tariff" (95 : TypeId) 3 false "" "" 40]) 5 72 (Value.agg #[Value.string (ByteArray.mk #[]), Value.string (ByteArray.mk #[]), Value.int IntKind.i64 0, Value.int IntKind.i64 0, Value.slice none 0 0]) true)
def wga : TI := (TI.mk (TypeDesc.struct #[Field.mk "UpTo" (2 : TypeId) 0 false "" "" 0, Field.mk "Price" (2 : TypeId) 1 false "" "" 8]) 2 16 (Value.agg #[Value.int IntKind.i64 0, Value.int IntKind.i64 0]) true)
theorem prg{C:Ctx}(hP:C.P=Tryz.prog):Prg C te:=⟨hP ▸ te_ok,te_one⟩
end Go.Eng
namespace Go.Eng
open Go.Proofs Go.RowKit
variable {H:Type} {enc:TypeId×Value->H}
theorem w39{a:Assume}{C:Checked}{os:Os}{f:FuncId}{fn:Func}{s:ChangeSpec}{conds:List PathCond}{apart fresh handsOn again:Bool}{X:World->Array Value->Prop}
  (hX:∀(w w':World) (args:Array Value),w.heap=w'.heap->X w args->X w' args)
  (own:ownKnob C.prog.godebug=none) (started:os.Started) (noInit:C.prog.inits.idxOf? f=none) (hfn:C.prog.funcs[f]?=some fn)
  (witness:∃(w:World) (tape:Tape) (i:Input),w.os=os/\(w.forCall tape i).Shaped C.prog/\i.vars=[]/\Input.okWide C.prog (w.forCall tape i) .any w.heap.size f i/\
   ((s.pre enc C.prog fn conds apart (w.forCall tape i).memory i.args/\X (w.forCall tape i).memory i.args)/\sizedMet enc C.prog fn (OpenSpec.ofChange s) apart (w.forCall tape i).memory i.args)/\a.holds C.prog (lone (Frame.enter C.prog f i.args .normal) [] (w.forCall tape i)))
  (contract:∀(W:World) (base:Nat) (args:Array Value) (ds gs:List (DataW H)) (before:List MemPlace),
   (∀(j:Nat) t v,fn.params[j]?=some t->args[j]?=some v->Value.okWide C.prog W .any base t v)->
   DataW.Whole enc C.prog fn.params.toList s.vars apart W args.toList ds gs before->X W args->W.ShapedOpen C.prog->
   Calls C.prog f args W λe W'=>∃v,e= .returned v/\s.post enc C.prog fn apart fresh handsOn again W args v W'):
  ReturnsInHanded a C os f .any (λw args=>(s.pre enc C.prog fn conds apart w args/\X w args)/\sizedMet enc C.prog fn (OpenSpec.ofChange s) apart w args) (s.post enc C.prog fn apart fresh handsOn again):=by
 refine returnsInHanded_of_calls own started noInit witness ?_;intro w tape i _ hsh _ hok hpre _;obtain⟨_,_,_,fn',hfn',_,_,_,_,hval⟩:=hok;have e:fn'=fn:=oJ7 (hfn'.symm.trans hfn);subst e;obtain⟨⟨⟨ds,gs,before,hw,_⟩,hx⟩,_⟩:=hpre;have hw':=DataW.Whole.of_heap (w':=w.forCall tape i) (by rfl) hw;have hx':=hX _ (w.forCall tape i) i.args (by rfl) hx;refine(contract (w.forCall tape i) w.heap.size i.args ds gs before hval hw' hx' hsh).mono λe W' ⟨v,he,hp⟩=>?_;subst he;exact ChangeSpec.post_blind hp
theorem ADet.top{C:Ctx}{f:FuncId}{args:List AV}{b:Bool}(h:ADet C f args [] (.bool b) []){w:World}(hl:C.laid w)(hg:C.gsz<=w.heap.size){cargs:List Value}(hlen:cargs.length=args.length)
  (hV:∀(j:Nat) v u,cargs[j]?=some v->args[j]?=some u->V w (λ_=>False) nob v u):Calls C.P f cargs.toArray w λe w'=>e= .returned (.bool b)/\Below w.heap.size w w':=by
 have no:∀r,lkL [] r=none:=λr=>by cases r<;>rfl
 have nm:∀b',¬ mutB (lkL []) nob b':=by
  rintro b' ⟨r,o,c,ho,_⟩;rw[no r] at ho;cases ho
 have hw:WRep C ⟨w,0,nob,λ_=>False,λ_=>False⟩ (lkL []) nob w:={
  obj:=λr o ho=>by rw[no r] at ho;cases ho
  sep:=λr r' o o' b c c' ho=>by rw[no r] at ho;cases ho
  out:=λb hb=>absurd hb (nm b)
  frz:=λr t sz n f b c ho=>by rw[no r] at ho;cases ho
  high:=λb hb=>by
   rcases hb with hb | hb
   ·exact hb.elim
   ·exact absurd hb (nm b)
  lt:=λr b c hb=>by simp[nob] at hb
  outlt:=λb hb=>hb.elim
  keep:=λb _ _=>rfl
  old:=λb hb=>absurd hb (nm b)
  size:=lR7 _
  pre:=λr x hr=>absurd hr (nZ7 r)
  os:=rfl
  tape:=.refl _ _
  output:=rfl
  laid:=hl
  gle:=hg }
 refine(h.2 ⟨w,0,nob,λ_=>False,λ_=>False⟩ nob w cargs rfl rfl rfl hw (λ_ _=>rfl) hlen (λj v u hv hu=>(hV j v u hv hu).step_ (λb _ _ hb=>?_) (λ_ _ _=>rfl) (lR7 _) nob (λ_ _ h=>h))).mono ?_
 ·rcases hb with hb | hb
  ·exact hb
  ·exact nm b hb
 ·rintro e w' ⟨v,u,O',bs',rfl,⟨rfl,rfl⟩,hw',hV',_⟩
  cases hV';exact⟨rfl,hw'.os,hw'.tape.tape,hw'.output,hw'.size,λi hi=>hw'.keep i hi (λh=>h)⟩
theorem wl4{W:World}{A:Option Addr}{n c sz:Nat}(g:Nat->List AV)(hn:n<=c)(hc:c<=maxLen)(hl:∀i,i<n->(g i).length=sz)
  (h:n=0∨∃ad,A=some ad/\ad.block<W.heap.size/\∀i,i<n->∀j,j<sz->∃v,W.cell? (ad.add (i * sz+j))=some v/\v.oneCell'=true/\∀u,(g i)[j]?=some u->V W (λ_=>False) nob v u):V W (λ_=>False) nob (.slice A n c) (.view sz n g):=by
 rcases h with rfl | ⟨ad,rfl,hb,h⟩
 ·exact .view ⟨0,0,none⟩ (λ_ _=>default) hn hc (λh=>absurd h (by omega)) hl (λi hi=>by omega) (λi hi=>by omega) (λi hi=>by omega)
 ·have hj:∀i,i<n->∀j u,(g i)[j]?=some u->j<sz:=λi hi j u hu=>by
   have:=(List.getElem?_eq_some_iff.1 hu).1;rw[hl i hi] at this;exact this
  refine .view ad (λi j=>(W.cell? (ad.add (i * sz+j))).getD default) hn hc (λ_=>⟨rfl,λh=>h,hb⟩) hl (λi hi j hj=>?_) (λi hi j hj=>?_) (λi hi j u hu=>?_)
  ·obtain⟨v,h1,_⟩:=h i hi j hj;rw[h1];rfl
  ·obtain⟨v,h1,h2,_⟩:=h i hi j hj;rw[h1];exact h2
  ·obtain⟨v,h1,_,h3⟩:=h i hi j (hj i hi j u hu);rw[h1];exact h3 u hu
end Go.Eng
namespace Go.Eng
def wdk(p:UInt8->Bool)(s:List UInt8):List UInt8:=(s.reverse.dropWhile p).reverse
def wfd(c s:List UInt8):List UInt8:=(wdk (c.contains ·) s).dropWhile (c.contains ·)
def we8:Spec
 |[.str s,.str c],[]=>some (.str (wfd c s),[],s.length<=maxLen/\2<=c.length/\c.length<4294967281/\∀b∈c,b.toNat<128)
 |_,_=>none
theorem wwo(p:UInt8->Bool)(r:List UInt8)(x:UInt8):wdk p (r++[x])=if p x then wdk p r else r++[x]:=by
 unfold wdk;simp only[List.reverse_append,List.reverse_cons,List.reverse_nil,List.nil_append,List.cons_append,List.dropWhile_cons];split<;>simp
theorem wyq{α:Type}(l:List α):l=[]∨∃r x,l=r++[x]:=by
 rcases List.eq_nil_or_concat l with h | ⟨r,x,h⟩
 ·exact .inl h
 ·exact .inr ⟨r,x,by rw[h];simp⟩
def wbq(cells:List AV)(x:UInt8):Bool:=whg (cells.getD x.toNat .any)
def wcs(cells:List AV):Prop:=cells.length=256/\∀u∈cells,∃b,u= .bool b
theorem wcs.at_{cells:List AV}(h:wcs cells)(x:UInt8):cells[x.toNat]?=some (.bool (wbq cells x)):=by
 have hlt:x.toNat<cells.length:=by rw[h.1];exact x.toNat_lt
 obtain⟨b,hb⟩:=h.2 cells[x.toNat] (List.getElem_mem hlt);have:wbq cells x=b:=by simp[wbq,hlt,hb,whg]
 rw[this,List.getElem?_eq_getElem hlt,hb]
theorem wcs.rn{cells:List AV}(h:wcs cells)(ρ:Nat->Option Nat):AV.rnL ρ cells=cells:=by
 have key:∀l:List AV,(∀u∈l,∃b,u= .bool b)->AV.rnL ρ l=l:=by
  intro l
  induction l with
  |nil=>intro _;rfl
  |cons u l ih=>
   intro hl;obtain⟨b,rfl⟩:=hl u (by simp);simp only[AV.rnL,AV.rn,ih λu hu=>hl u (List.mem_cons_of_mem _ hu)]
 exact key cells h.2
@[irreducible] def setAV (cs:List UInt8):List AV:=(List.range 256).map λi=>.bool (cs.contains (UInt8.ofNat i))
theorem wgb(cs:List UInt8):wcs (setAV cs):=⟨by unfold setAV;simp,λu hu=>by
 unfold setAV at hu;obtain⟨i,_,rfl⟩:=List.mem_map.1 hu;exact⟨_,rfl⟩⟩
theorem w36(cs:List UInt8)(x:UInt8):wbq (setAV cs) x=cs.contains x:=by
 have:x.toNat<256:=x.toNat_lt;unfold wbq setAV;simp[List.getD,this,whg]
def wgu:Spec
 |[.ptr 0 0,.int .u8 x],[.cells cells t]=>some (.bool (wbq cells (UInt8.ofNat x.toNat)),[(0,.cells cells t)],wcs cells/\0<=x/\x<256)
 |_,_=>none
def wmc:Spec
 |[.str s,.ptr 0 0],[.cells cells 262]=>some (.str (s.dropWhile (wbq cells)),[(0,.cells cells 262)],wcs cells)
 |_,_=>none
def wmb:Spec
 |[.str s,.ptr 0 0],[.cells cells 262]=>some (.str (wdk (wbq cells) s),[(0,.cells cells 262)],wcs cells/\s.length<=maxLen)
 |_,_=>none
def wek(cells:List AV)(t:Nat)(s:List UInt8):St:=⟨[(0,.str s),(1,.ptr 0 0)],[(0,.cells cells t)],1,[]⟩
def wop(s:List UInt8)(cells:List AV)(t:Nat):wao:=λst Q=>canonIs te 1 [0,1] st (wek cells t s)/\wcs cells/\Q (.exit 0) ⟨[(0,.str (s.dropWhile (wbq cells)))],[(0,.cells cells t)],1,[]⟩
def woo(s:List UInt8)(cells:List AV)(t:Nat):wao:=λst Q=>canonIs te 1 [0,1] st (wek cells t s)/\wcs cells/\s.length<=maxLen/\Q (.exit 0) ⟨[(0,.str (wdk (wbq cells) s))],[(0,.cells cells t)],1,[]⟩
def wxn:Spec
 |[.str l],[]=>some (.tuple [.agg (setAV l),.bool true],[],l.length<4294967281/\∀b∈l,b.toNat<128)
 |_,_=>none
def won(s cs:List UInt8):wao:=λst Q=>canonIs te 0 [0,1] st ⟨[(0,.str s),(1,.str cs)],[],0,[]⟩/\cs.length<4294967281/\(∀b∈cs,b.toNat<128)/\
 Q .normal ⟨[(0,.str s),(5,.ptr 0 0),(6,.bool true)],[(0,.cells (setAV cs) 262)],1,[]⟩
end Go.Eng
