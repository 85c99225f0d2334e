/- The tied card of VintageNormal: its statement is 'VintageNormalCardSaid' of the given cards. -/
import Derived.Test.YtgcboligphndhaaGreatDoorHp
import Derived.Test.YtgcboligphndhaaGreatDoorHzg
import Derived.Test.YtgcboligphndhaaGreatDoorCards
import Derived.Test.YtgcboligphndhaaGreatDoorTie
import Derived.SevenTiedAt
namespace Go.Eng
open Go.Proofs Go.RowKit Go.ChangeShapes Go.WideShapes Go.ChangeAt
theorem params_Nl:Tryz.f8.params=#[51,23]:=by kernel_rfl
set_option maxRecDepth 100000 in
theorem w2n(os:Os)(started:os.Started)(H:Type)(enc:TypeId×Value->H):
  ReturnsInHanded {} Tryz.checked os 8 .any (λw args=>(Go.Proofs.YtgcboligphndhaaGreatDoor.Rows.vintageNormalSpec.pre enc Tryz.prog Tryz.f8 [] false w args/\laidMetH Tryz.prog Go.Proofs.YtgcboligphndhaaGreatDoor.Rows.vintageNormalRow.laid w)/\sizedMet enc Tryz.prog Tryz.f8 (OpenSpec.ofChange Go.Proofs.YtgcboligphndhaaGreatDoor.Rows.vintageNormalSpec) false w args)
   (Go.Proofs.YtgcboligphndhaaGreatDoor.Rows.vintageNormalSpec.post enc Tryz.prog Tryz.f8 false true false false):=by
 refine w3g (C:=Tryz.checked) (X:=λw _=>laidMetH Tryz.prog Go.Proofs.YtgcboligphndhaaGreatDoor.Rows.vintageNormalRow.laid w) (λ_ _ _ hh h=>h.of_heap hh) ownK started (by kernel_rfl) Tryz.func8
  (ChangeSpec.witness_at (enc:=enc) (C:=Tryz.checked) (os:=os) (X:=λw _=>laidMetH Tryz.prog Go.Proofs.YtgcboligphndhaaGreatDoor.Rows.vintageNormalRow.laid w) false (wup os) #[.slice none 0 0,.slice none 0 0] 8 rfl (by kernel_rfl) (by kernel_rfl) (by kernel_rfl) (by kernel_rfl) (by kernel_rfl) (w2s os _)) ?_
 intro W base args ds gs before hval0 hW hL hsh;have hval:∀(j:Nat) t v,Tryz.f8.params[j]?=some t->args[j]?=some v->Value.okWide Tryz.prog W .any base t v:=hval0;have hW':=hW;obtain⟨p,q,hA0,hV,rfl,hfz,hnd⟩:=hW;have hA:DataW.TrodAll enc Tryz.prog W 0 (λ_=>true) true Tryz.f8.params.toList args.toList ds p:=hA0;rw[params_Nl] at hA hval;obtain⟨v0,vs0,d0,ds0,p0,q0,hargs,rfl,rfl,h0,r0⟩:=trodAll_cons hA;obtain⟨v1,vs1,d1,ds1,p1,q1,rfl,rfl,rfl,h1,r1⟩:=trodAll_cons r0;obtain⟨rfl,rfl,rfl⟩:=trodAll_nil r1;obtain rfl:args=#[v0,v1]:=by cases args;simp_all
 obtain⟨rfl,rfl⟩:=trodVars_none hV;obtain⟨a0,len0,cap0,rfl⟩:=okWide_slice undFls (hval 0 51 v0 rfl rfl);obtain⟨a1,len1,cap1,rfl⟩:=okWide_slice undIs (hval 1 23 v1 rfl rfl);have k0:=h0;have k1:=h1;have lt0:∀x∈p0,x.block<W.heap.size:=by obtain⟨m,hm⟩:=k0;exact DataW.trod_lt m _ _ _ hm
 have lt1:∀x∈p1,x.block<W.heap.size:=by obtain⟨m,hm⟩:=k1;exact DataW.trod_lt m _ _ _ hm
 obtain⟨m0,hm0⟩:=h0;obtain⟨m1,hm1⟩:=h1;obtain⟨A0,n0,c0,g0,e0,V0,R0⟩:=wyf hm0;have e0:[Value.slice a0 len0 cap0]=[Value.slice A0 n0 c0]:=e0;simp only[List.cons.injEq,and_true] at e0;rw[← e0] at V0;obtain⟨A1,n1,c1,w1,e1,V1⟩:=wye hm1;have e1:[Value.slice a1 len1 cap1]=[Value.slice A1 n1 c1]:=e1;simp only[List.cons.injEq,and_true] at e1;rw[← e1] at V1;have lw:=w2t hL hsh;refine(ADet.top (C:=cx) (vn_ok rfl (λ_ h=>h) n0 g0 R0 n1 w1) lw (gsz_le lw) (cargs:=[.slice a0 len0 cap0,.slice a1 len1 cap1]) rfl (λj x u hx hu=>?_)).mono λe W' ⟨he,bel⟩=>?_
 ·match j with
  |0=>obtain rfl:=Option.some.inj hx;obtain rfl:=Option.some.inj hu;exact V0
  |1=>obtain rfl:=Option.some.inj hx;obtain rfl:=Option.some.inj hu;exact V1
  |j+2=>simp at hx
 ·subst he;exact⟨_,rfl,_,_,_,[],_,[],hW',trodAll_mk1 (shut_bool (show Tryz.prog.underlying 4=some .bool by kernel_rfl) _),(trodAll_cons_mk (Below.trod wqt (by kernel_rfl) (of_decide_eq_true (by kernel_rfl)) k0 bel lt0) (trodAll_cons_mk (Below.trod wqt (by kernel_rfl) (of_decide_eq_true (by kernel_rfl)) k1 bel lt1) trodAll_mk0)),rfl,bel.frame _,λh=>by cases h⟩
set_option maxRecDepth 100000 in
theorem over_Nl:Go.Proofs.YtgcboligphndhaaGreatDoor.Rows.vintageNormalRow.holds Go.Proofs.YtgcboligphndhaaGreatDoor.Tryz.pinned (OpenSpec.ofChange Go.Proofs.YtgcboligphndhaaGreatDoor.Rows.vintageNormalSpec):=
 OpenClaim.holds_of_wide 8 Tryz.f8 rfl rfl rfl rfl rfl rfl rfl ⟨rfl,rfl,rfl,rfl,rfl⟩ rfl rfl rfl rfl rfl (by kernel_rfl) Tryz.func8 w4k
  inst_Nl (by unfold Func.isWrapper;rw[if_neg (of_decide_eq_false (by kernel_rfl))];exact⟨rfl,rfl⟩)
  (λos started H enc _=>w2n os started H enc)
end Go.Eng
namespace Go.Proofs.YtgcboligphndhaaGreatDoor
open Go
def harB : Bool × String := (true, "40fb3bd35b79f194dc6e91eb15eecf1db62dc7e1bded180275d4dc3755fccfaf")
set_option maxRecDepth 100000 in
theorem mainB:Tryz.prog.mainIs=some (harB.1,harB.2.toList):=by kernel_rfl
set_option maxRecDepth 100000 in
theorem looksB:true=Tryz.prog.looks []:=by kernel_rfl
end Go.Proofs.YtgcboligphndhaaGreatDoor
namespace Go.Proofs.YtgcboligphndhaaGreatDoor
open Go
set_option maxRecDepth 100000 in
theorem wf_Nl:Rows.vintageNormalRow.wfByText (OpenSpec.ofChange Rows.vintageNormalSpec)=true:=by kernel_rfl
set_option maxRecDepth 100000 in
theorem goes_Nl:false=Rows.vintageNormalRow.goesBy Tryz.prog:=by kernel_rfl
theorem w1x : Tryz.prog.funcNamed "priceoffice/priceofficelaw15.VintageNormal" = some 8 := by kernel_rfl
theorem wxu:Tryz.prog.wantsStandIn 51=false:=by kernel_rfl
theorem wxt:Tryz.prog.wantsStandIn 23=false:=by kernel_rfl
theorem card_Nl:Rows.VintageNormalCardSaid:=
 Claim7.holds_tied_plain_at .later [] [.data,.data,.data,.data,.sentinel,.sentinel,.pinned] true harB true
  Go.Eng.over_Nl (λ_ h=>by cases h) wf_Nl (λ_ h=>by cases h) vintageNormal_row_tie rfl ⟨rfl,rfl⟩ mainB rfl
  (λf fn hf hfn=>by
   obtain rfl:f=8:=Option.some.inj (w1x.symm.trans hf) |>.symm;obtain rfl:fn=Tryz.f8:=(Option.some.inj (Tryz.func8.symm.trans hfn)).symm;exact⟨looksB,λj t ht=>by
    rw[Go.Eng.params_Nl] at ht;have h3:t=51∨t=23:=by
     rcases j with _ | _ | j
     ·exact .inl (by simpa using ht.symm)
     ·exact .inr ((by simpa using ht.symm))
     ·simp at ht
    rcases h3 with rfl | rfl
    ·exact wxu
    ·exact wxt⟩)
  goes_Nl
end Go.Proofs.YtgcboligphndhaaGreatDoor
