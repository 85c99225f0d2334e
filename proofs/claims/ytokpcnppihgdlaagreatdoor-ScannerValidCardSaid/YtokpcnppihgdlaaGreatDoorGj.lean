/- Lemmas that the tied card of ScannerValid is proved by. -/
import Derived.Test.YtokpcnppihgdlaaGreatDoorGi
import Derived.LoopN
import Derived.Scope
/- The weakest precondition as a function: regions that draw their order. -/
namespace Go.Eng

theorem hide_le {α : Type} (h : List Nat) (f : Nat → Option α) : Sub (hide h f) f := fun d x hx => by
  unfold hide at hx
  split at hx
  · cases hx
  · exact hx
theorem hide_at {α : Type} {h : List Nat} {f : Nat → Option α} {d : Nat} (hd : hasN h d = false) : hide h f d = f d := by unfold hide; rw [hd]

theorem objsOf_hide {ρ : Nat → Option Nat} {O : Nat → Option AObj} {h : List Nat} : ∀ {l : List Nat} {l' : List AObj}, (l.all fun x => !(hasN h x)) = true → objsOf ρ O l = some l' → objsOf ρ (hide h O) l = some l'
  | [], l', _, ho => ho
  | r :: l, l', ha, ho => by
    simp only [List.all_cons, Bool.and_eq_true, Bool.not_eq_true'] at ha
    simp only [objsOf, hide_at ha.1] at ho ⊢
    split at ho
    · rename_i o h1
      split at ho
      · rename_i hm
        try simp only [hm]
        split at ho
        · rename_i o' h2
          try simp only [h2]
          split at ho
          · rename_i l2 h3
            rw [objsOf_hide ha.2 h3]
            exact ho
          · cases ho
        · cases ho
      · cases ho
    · cases ho

theorem pure_hide {te : TE} {h : List Nat × List Nat} {T : List (Nat × AV)} {O : List (Nat × AObj)} {op : Op} {r r' : AV × Prop} (h1 : evalPure te (hide h.1 (lk T)) (hide h.2 (lk O)) op = some r) (h2 : evalPure te (lk T) (lk O) op = some r') :
    evalPure te (hide h.1 (lk T)) (hide h.2 (lk O)) op = some r' := by
  have := evalPure_mono (hide_le h.1 (lk T)) (hide_le h.2 (lk O)) h1
  rw [h1, ← h2, this]

theorem eff_hide {te : TE} {h : List Nat × List Nat} {T : List (Nat × AV)} {O : List (Nat × AObj)} {k : Nat} {op : Op} {r r' : AV × List (Nat × AObj) × Prop} (h1 : evalEff te (hide h.1 (lk T)) (hide h.2 (lk O)) k op = some r) (h2 : evalEff te (lk T) (lk O) k op = some r') :
    evalEff te (hide h.1 (lk T)) (hide h.2 (lk O)) k op = some r' := by
  have := evalEff_mono (hide_le h.1 (lk T)) (hide_le h.2 (lk O)) h1
  rw [h1, ← h2, this]

theorem X_hide {te : TE} {h : List Nat × List Nat} {T : List (Nat × AV)} {O : List (Nat × AObj)} {k : Nat} {dst : Option Tmp} {op : Op} {r r' : Bool × XOut × XOut} (h1 : evalX te (hide h.1 (lk T)) (hide h.2 (lk O)) k dst op = some r) (h2 : evalX te (lk T) (lk O) k dst op = some r') :
    evalX te (hide h.1 (lk T)) (hide h.2 (lk O)) k dst op = some r' := by
  have := evalX_mono (hide_le h.1 (lk T)) (hide_le h.2 (lk O)) h1
  rw [h1, ← h2, this]

section
variable {C : Ctx} {G : Env} (hG : EnvOK C G) {opl : List Oper} {o : Oper} {T : List (Nat × AV)} {O : List (Nat × AObj)} {k : Nat}
include hG

theorem wpD1_ok {K : AV → List (Nat × AObj) → Prop} (hw : wpD1 G o T O k K) :
    ∃ u l, K u l ∧ ∀ h : List Nat × List Nat, GuardOK opl h.1 T o true → looks2 G.te h k o T O = true → DStep C G.N opl h.1 h.2 k o ⟨true, u, l⟩ T O := by
  unfold wpD1 at hw
  split at hw
  · rename_i hd
    split at hw
    · rename_i u v hu
      obtain ⟨h1, h2⟩ := vcP_elim (trivOp_ok hu) hw
      refine ⟨u, [], h2, fun h hg hl => ?_⟩
      unfold looks2 at hl
      split at hl
      · rename_i r hr
        exact DStep.pure hG.te hG.one hg (pure_hide hr hu) hd h1
      · split at hl
        · cases hl
        · rename_i hn
          rw [hu] at hn; cases hn
    · rename_i hpn
      split at hw
      · rename_i u l v hu
        obtain ⟨h1, h2⟩ := vcP_elim (trivEff_ok hu) hw
        refine ⟨u, l, h2, fun h hg hl => ?_⟩
        unfold looks2 at hl
        split at hl
        · rename_i r hr
          have := evalPure_mono (hide_le h.1 (lk T)) (hide_le h.2 (lk O)) hr
          rw [hpn] at this; cases this
        · split at hl
          · cases hl
          · split at hl
            · rename_i r hr
              exact DStep.eff hG.te hg (eff_hide hr hu) hd h1
            · split at hl
              · cases hl
              · rename_i hn
                rw [hu] at hn; cases hn
      · rename_i hen
        split at hw
        · rename_i b x1 x2 hx
          have fin : ∀ x : XOut, (∀ h : List Nat × List Nat, OpStep C G.N o (hide h.1 (lk T)) (hide h.2 (lk O)) k x.1 x.2.1 ∨ evalX G.te (hide h.1 (lk T)) (hide h.2 (lk O)) k o.dst o.op = none) → K x.1 x.2.1 →
              ∃ u l, K u l ∧ ∀ h : List Nat × List Nat, GuardOK opl h.1 T o true → looks2 G.te h k o T O = true → DStep C G.N opl h.1 h.2 k o ⟨true, u, l⟩ T O := by
            intro x hs hk
            refine ⟨x.1, x.2.1, hk, fun h hg hl => ?_⟩
            rcases hs h with hs | hs
            · exact ⟨hg, .inl ⟨rfl, hs⟩⟩
            · unfold looks2 at hl
              split at hl
              · rename_i r hr
                have := evalPure_mono (hide_le h.1 (lk T)) (hide_le h.2 (lk O)) hr
                rw [hpn] at this; cases this
              · split at hl
                · cases hl
                · split at hl
                  · rename_i r hr
                    have := evalEff_mono (hide_le h.1 (lk T)) (hide_le h.2 (lk O)) hr
                    rw [hen] at this; cases this
                  · split at hl
                    · cases hl
                    · rw [hs, hx] at hl
                      cases hl
          have step : ∀ h : List Nat × List Nat, (∀ hh : evalX G.te (hide h.1 (lk T)) (hide h.2 (lk O)) k o.dst o.op = some (b, x1, x2), (b = true → x1.2.2 → OpStep C G.N o (hide h.1 (lk T)) (hide h.2 (lk O)) k x1.1 x1.2.1) ∧ (b = false → x2.2.2 → OpStep C G.N o (hide h.1 (lk T)) (hide h.2 (lk O)) k x2.1 x2.2.1)) :=
            fun h hh => evalX_ok hG.te hG.one hh hd
          obtain ⟨h1, h2⟩ := condP_elim hw
          have some_or : ∀ h : List Nat × List Nat, evalX G.te (hide h.1 (lk T)) (hide h.2 (lk O)) k o.dst o.op = some (b, x1, x2) ∨ evalX G.te (hide h.1 (lk T)) (hide h.2 (lk O)) k o.dst o.op = none := by
            intro h
            cases hc : evalX G.te (hide h.1 (lk T)) (hide h.2 (lk O)) k o.dst o.op with
            | none => exact .inr rfl
            | some r => exact .inl (by rw [← X_hide hc hx, hc])
          cases hb : b with
          | true => exact fin x1 (fun h => (some_or h).imp (fun hh => (step h hh).1 hb (h1 hb).1) id) (h1 hb).2
          | false => exact fin x2 (fun h => (some_or h).imp (fun hh => (step h hh).2 hb (h2 hb).1) id) (h2 hb).2
        rename_i hxn
        split at hw
        · rename_i fo args at_ hop
          split at hw
          · rename_i f cap hf
            split at hw
            · rename_i as ha
              split at hw
              · rename_i S hS
                dsimp only at hw
                split at hw
                · rename_i hnd
                  split at hw
                  · rename_i cobjs hobj
                    split at hw
                    · rename_i U Os vc hUS
                      split at hw
                      · rename_i O2 hnk hbk
                        obtain ⟨hv, hvc, hw⟩ := rowVCo_elim hw
                        obtain ⟨hv', hw⟩ := rowVC_elim hw
                        refine ⟨_, _, hw, fun h hg hl => ?_⟩
                        unfold looks2 at hl
                        split at hl
                        · rename_i r hr
                          have := evalPure_mono (hide_le h.1 (lk T)) (hide_le h.2 (lk O)) hr
                          rw [hpn] at this; cases this
                        · split at hl
                          · cases hl
                          · split at hl
                            · rename_i r hr
                              have := evalEff_mono (hide_le h.1 (lk T)) (hide_le h.2 (lk O)) hr
                              rw [hen] at this; cases this
                            · split at hl
                              · cases hl
                              · split at hl
                                · rename_i r hr
                                  have := evalX_mono (hide_le h.1 (lk T)) (hide_le h.2 (lk O)) hr
                                  rw [hxn] at this; cases this
                                rw [hxn] at hl
                                dsimp only at hl
                                rw [hop] at hl
                                dsimp only at hl
                                split at hl
                                · rename_i f' cap' hf'
                                  have hff := evO_mono (hide_le h.1 (lk T)) hf'
                                  rw [hf] at hff
                                  simp only [Option.some.injEq, AV.func.injEq] at hff
                                  obtain ⟨rfl, rfl⟩ := hff
                                  split at hl
                                  · rename_i as' ha'
                                    have haa := evL_mono (hide_le h.1 (lk T)) ha'
                                    rw [ha] at haa
                                    simp only [Option.some.injEq] at haa
                                    subst haa
                                    exact ⟨hg, .inl ⟨rfl, OpStep.call _ hop hd hf' ha' (ndB_nodup hnd) (objsOf_ok (objsOf_hide hl hobj) hv) ((hG.calls _ _ hS : SpecOK C _ S) _ _ _ _ _ hUS hvc) (by rintro u O' ⟨rfl, rfl⟩; exact ⟨rfl, backQ_ok hbk hv' (lk_all hnk)⟩)⟩⟩
                                  · cases hl
                                · cases hl
                      · exact hw.elim
                    · exact hw.elim
                  · exact hw.elim
                · exact hw.elim
              · exact hw.elim
            · exact hw.elim
          · exact hw.elim
        · exact hw.elim
  · exact hw.elim
end

/-- The rows that were met, one behind the other. (A slot may be told by another word for the same.) -/
def RowsOK (C : Ctx) (G : Env) (opl : List Oper) : Nat → List DRow → List (Nat × AV) → List (Nat × AObj) → Prop
  | _, [], _, _ => True
  | k, r :: l, T, O => lk r.T = lk T ∧ r.O = O ∧ (∀ h, looksOK G opl h k r = true → DStep C G.N opl h.1 h.2 k r.o r.p r.T r.O) ∧ RowsOK C G opl (k + 16) l (putT r.o.dst r.p.u T) (r.p.l ++ O)

theorem RowsOK.snoc {C : Ctx} {G : Env} {opl : List Oper} : ∀ {rows : List DRow} {k : Nat} {T : List (Nat × AV)} {O : List (Nat × AObj)} {r : DRow}, RowsOK C G opl k rows T O →
    lk r.T = lk (linT (rows.map DRow.o) (rows.map DRow.p) T) → r.O = linO (rows.map DRow.p) O → (∀ h, looksOK G opl h (k + 16 * rows.length) r = true → DStep C G.N opl h.1 h.2 (k + 16 * rows.length) r.o r.p r.T r.O) → RowsOK C G opl k (rows ++ [r]) T O
  | [], k, T, O, r, _, h1, h2, h3 => ⟨h1, h2, h3, trivial⟩
  | x :: l, k, T, O, r, h, h1, h2, h3 => by
    refine ⟨h.1, h.2.1, h.2.2.1, RowsOK.snoc h.2.2.2 h1 h2 ?_⟩
    have e : k + 16 + 16 * l.length = k + 16 * (x :: l).length := by simp; omega
    rw [e]
    exact h3

theorem DStep.congr {C : Ctx} {N : Nat} {opl : List Oper} {h1 h2 : List Nat} {k : Nat} {o : Oper} {p : PEnt} {T T' : List (Nat × AV)} {O : List (Nat × AObj)} (h : lk T = lk T') (hd : DStep C N opl h1 h2 k o p T O) : DStep C N opl h1 h2 k o p T' O := by
  unfold DStep at hd ⊢
  rw [← h]
  exact hd

theorem RowsOK.all {C : Ctx} {G : Env} {opl : List Oper} {plan : List PEnt} {anc : List (List Nat)} : ∀ {rows : List DRow} {i k : Nat} {T : List (Nat × AV)} {O : List (Nat × AObj)}, RowsOK C G opl k rows T O → looksAll G opl plan anc i k rows = true →
    DAll C G.N opl k (rows.map DRow.o) (rows.map DRow.p) ((List.range' i rows.length).map (hidAt opl plan anc)) T O
  | [], i, k, T, O, _, _ => trivial
  | r :: l, i, k, T, O, h, hl => by
    simp only [looksAll, Bool.and_eq_true] at hl
    obtain ⟨h1, h2, h3, h4⟩ := h
    have hd := (h3 _ hl.1).congr h1
    rw [h2] at hd
    exact ⟨hd, RowsOK.all h4 hl.2⟩

/-- Slots told by other words. -/
theorem AWP.sameT {C : Ctx} {m N : Nat} {c : Code} {Q : Exit → St → Prop} {s : St} (h : AWP C m N c (fun e s => ∃ T, lk T = lk s.T ∧ Q e ⟨T, s.O, s.nx, []⟩) s) : AWP C m N c Q s := by
  intro E hE bs a w hr
  refine wp_mono (h E hE bs a w hr) ?_
  rintro e a w ⟨s', bs', ⟨T, hT, hQ⟩, hr'⟩
  refine ⟨_, bs', hQ, ⟨?_, hr'.2⟩⟩
  show Rep C E N (lk T) (lk s'.O) bs' a w
  rw [hT]; exact hr'.1

theorem lk_putT_congr {T T' : List (Nat × AV)} (h : lk T = lk T') (d : Option Tmp) (u : AV) : lk (putT d u T) = lk (putT d u T') := by
  rw [lk_putT, lk_putT, h]

theorem lk_patch {T : List (Nat × AV)} {d : Nat} {b b' : Bool} (h : lk T d = some (.bool b)) (hb : b = b') : lk ((d, AV.bool b') :: rm d T) = lk T := by
  rw [lk_rm]
  funext i
  rw [lk_cons]
  split
  · rename_i e
    have e' : d = i := e
    subst e'
    rw [h, hb]
  · rfl

section
variable {C : Ctx} {G : Env} (hG : EnvOK C G) {m id : Nat} {opl : List Oper} {T0 : List (Nat × AV)} {O0 : List (Nat × AObj)} {nx0 : Nat} {Q : Exit → St → Prop} {K : St → Prop} (hK : ∀ s, K s → Q .normal s)
include hG hK

theorem wpD_ok : ∀ (l : List Oper) (rows : List DRow) (T : List (Nat × AV)), opl = rows.map DRow.o ++ l → RowsOK C G opl nx0 rows T0 O0 → lk T = lk (linT (rows.map DRow.o) (rows.map DRow.p) T0) →
    wpD G opl T0 O0 nx0 K l rows T (linO (rows.map DRow.p) O0) (nx0 + 16 * rows.length) → AWP C m G.N (.region id opl.toArray true) Q ⟨T0, O0, nx0, []⟩
  | [], rows, T, hl, hr, hT, h => by
    simp only [wpD] at h
    split at h
    · rename_i hc
      unfold drawnOK at hc
      simp only [Bool.and_eq_true] at hc
      obtain ⟨⟨⟨h1, h2⟩, h3⟩, h4⟩ := hc
      have hl' : opl = rows.map DRow.o := by simpa using hl
      have hlen : opl.length = rows.length := by rw [hl']; simp
      have hd := hr.all h4
      rw [← List.range_eq_range', ← hlen, ← hl'] at hd
      refine AWP.sameT (AWP.drawn (rows.map DRow.p) (ancAll opl []) ((List.range opl.length).map (hidAt opl (rows.map DRow.p) (ancAll opl []))) h1 h2 h3 hd rfl rfl rfl ⟨T, ?_, hK _ ?_⟩)
      · rw [hT, ← hl']
      · rw [← hlen] at h
        exact h
    · exact h.elim
  | o :: rest, rows, T, hl, hr, hT, h => by
    have go : ∀ (p : PEnt) (T' : List (Nat × AV)), lk T' = lk T → (∀ hh, looksOK G opl hh (nx0 + 16 * rows.length) ⟨o, T', linO (rows.map DRow.p) O0, p⟩ = true →
          DStep C G.N opl hh.1 hh.2 (nx0 + 16 * rows.length) o p T' (linO (rows.map DRow.p) O0)) →
        wpD G opl T0 O0 nx0 K rest (rows ++ [⟨o, T', linO (rows.map DRow.p) O0, p⟩]) (putT o.dst p.u T') (p.l ++ linO (rows.map DRow.p) O0) (nx0 + 16 * rows.length + 16) →
        AWP C m G.N (.region id opl.toArray true) Q ⟨T0, O0, nx0, []⟩ := by
      intro p T' hT' hp hw
      refine wpD_ok rest (rows ++ [⟨o, T', _, p⟩]) (putT o.dst p.u T') (by rw [hl]; simp) (hr.snoc (hT'.trans hT) rfl hp) ?_ ?_
      · simp only [List.map_append, List.map_cons, List.map_nil]
        rw [linT_snoc _ _ _ _ _ (by simp)]
        exact lk_putT_congr (hT'.trans hT) _ _
      · simp only [List.map_append, List.map_cons, List.map_nil, List.length_append, List.length_cons, List.length_nil]
        rw [linO_snoc]
        exact hw
    have skip : ∀ {d : Nat} {want b : Bool} (T' : List (Nat × AV)), gslot opl o = some (d, want) → lk T' d = some (.bool b) → o.guard ≠ none → (b == want) = false → dstOK G.N o.dst = true →
        ∀ hh, looksOK G opl hh (nx0 + 16 * rows.length) ⟨o, T', linO (rows.map DRow.p) O0, ⟨false, .tuple [], []⟩⟩ = true →
          DStep C G.N opl hh.1 hh.2 (nx0 + 16 * rows.length) o ⟨false, .tuple [], []⟩ T' (linO (rows.map DRow.p) O0) := by
      intro d want b T' hgs hT hgn hb hd hh hlk
      refine DStep.skip ?_ hd
      simp only [looksOK, Bool.and_eq_true] at hlk
      have hlk := hlk.1
      split at hlk
      · rename_i hg; exact absurd hg hgn
      · rw [hgs] at hlk
        simp only [Bool.not_eq_true'] at hlk
        exact GuardOK.some b hgs (by rw [hide_at hlk]; exact hT) rfl hb
    have run : ∀ {d : Nat} {want b : Bool} (T' : List (Nat × AV)), lk T' = lk T → gslot opl o = some (d, want) → lk T' d = some (.bool b) → o.guard ≠ none → (b == want) = true →
        wpD1 G o T' (linO (rows.map DRow.p) O0) (nx0 + 16 * rows.length)
          (fun u l => wpD G opl T0 O0 nx0 K rest (rows ++ [⟨o, T', linO (rows.map DRow.p) O0, ⟨true, u, l⟩⟩]) (putT o.dst u T') (l ++ linO (rows.map DRow.p) O0) (nx0 + 16 * rows.length + 16)) →
        AWP C m G.N (.region id opl.toArray true) Q ⟨T0, O0, nx0, []⟩ := by
      intro d want b T' hTT hgs hT hgn hb hw
      obtain ⟨u, l, hk, hs⟩ := wpD1_ok hG (opl := opl) hw
      refine go ⟨true, u, l⟩ T' hTT (fun hh hlk => ?_) hk
      simp only [looksOK, Bool.and_eq_true] at hlk
      refine hs hh ?_ hlk.2
      have hlk := hlk.1
      split at hlk
      · rename_i hg; exact absurd hg hgn
      · rw [hgs] at hlk
        simp only [Bool.not_eq_true'] at hlk
        exact GuardOK.some b hgs (by rw [hide_at hlk]; exact hT) rfl hb
    simp only [wpD] at h
    split at h
    · rename_i hg
      obtain ⟨u, l, hk, hs⟩ := wpD1_ok hG (opl := opl) h
      refine go ⟨true, u, l⟩ T rfl (fun hh hlk => ?_) hk
      simp only [looksOK, Bool.and_eq_true] at hlk
      exact hs hh (GuardOK.none hg) hlk.2
    · rename_i g hg
      have hgn : o.guard ≠ none := by rw [hg]; simp
      split at h
      · rename_i d want hgs
        split at h
        · rename_i b hTd
          split at h
          · rename_i hd
            have hl : ∀ b', lk ((d, AV.bool b') :: rm d T) d = some (.bool b') := fun b' => by rw [lk_cons]; simp
            cases hb : b with
            | true =>
              have h := (condP_elim h).1 hb
              split at h
              · exact run _ (lk_patch hTd hb) hgs (hl _) hgn rfl h
              · exact go _ _ (lk_patch hTd hb) (skip _ hgs (hl _) hgn rfl hd) h
            | false =>
              have h := (condP_elim h).2 hb
              split at h
              · exact run _ (lk_patch hTd hb) hgs (hl _) hgn rfl h
              · exact go _ _ (lk_patch hTd hb) (skip _ hgs (hl _) hgn rfl hd) h
          · exact h.elim
        · rename_i hTd
          split at h
          · rename_i hd
            refine go ⟨false, .tuple [], []⟩ T rfl (fun hh hlk => ?_) h
            refine DStep.skip ?_ hd
            simp only [looksOK, Bool.and_eq_true] at hlk
            have hlk := hlk.1
            split at hlk
            · rename_i hg'; exact absurd hg' hgn
            · rw [hgs] at hlk
              simp only [Bool.not_eq_true'] at hlk
              exact GuardOK.undef hgs (by rw [hide_at hlk]; exact hTd)
          · exact h.elim
        · exact h.elim
      · exact h.elim
end

end Go.Eng
/- The weakest precondition as a function: code, loops, whole functions. -/
namespace Go.Eng

theorem AWP.mono {C : Ctx} {m N : Nat} {c : Code} {Q Q' : Exit → St → Prop} {s : St} (h : AWP C m N c Q s) (k : ∀ e s, Q e s → Q' e s) : AWP C m N c Q' s := by
  intro E hE bs a w hr
  refine wp_mono (h E hE bs a w hr) ?_
  rintro e a w ⟨s', bs', hq, hr'⟩
  exact ⟨s', bs', k _ _ hq, hr'⟩

theorem thenA_mono {K K' : St → Prop} {Q : Exit → St → Prop} (h : ∀ s, K s → K' s) (e : Exit) (s : St) (hq : thenA K Q e s) : thenA K' Q e s := by
  cases e <;> first | exact h _ hq | exact hq

section
variable {C : Ctx} {G : Env} (hG : EnvOK C G) {m : Nat}
include hG

theorem wpC_ok : ∀ (c : Code) (Q : Exit → St → Prop) (s : St), (∀ p ∈ loopsOf G.loops c, ∀ s Q, p.2 s Q → AWP C m G.N p.1 Q s) → wpC G c Q s → AWP C m G.N c Q s
  | .skip, Q, s, _, h => AWP.skip h
  | .label _, Q, s, _, h => AWP.label h
  | .exit id, Q, s, _, h => AWP.exit h
  | .ret, Q, s, _, h => AWP.ret h
  | .seq x y, Q, s, hL, h => by
    have hx := wpC_ok x (thenA (wpC G y Q) Q) s (fun p hp => hL p (by simp [loopsOf, hp])) h
    refine AWP.seq (hx.mono fun e s hq => ?_)
    exact thenA_mono (fun s hs => wpC_ok y Q s (fun p hp => hL p (by simp [loopsOf, hp])) hs) e s hq
  | .block id x, Q, s, hL, h => AWP.block (wpC_ok x (blockA id Q) s hL h)
  | .cond c x y, Q, s, hL, h => by
    simp only [wpC] at h
    split at h
    · rename_i b hb
      refine AWP.cond hb (fun hh => ?_) (fun hh => ?_)
      · exact wpC_ok x Q s (fun p hp => hL p (by simp [loopsOf, hp])) ((condP_elim h).1 hh)
      · exact wpC_ok y Q s (fun p hp => hL p (by simp [loopsOf, hp])) ((condP_elim h).2 hh)
    · exact h.elim
  | .region id ops draw, Q, s, hL, h => by
    simp only [wpC] at h
    split at h
    · rename_i L hl
      exact hL (.region id ops draw, L) (by simp [loopsOf, hl]) s Q h
    obtain ⟨T, O, nx, dec⟩ := s
    split at h
    · have hr : AWP C m G.N (.region id ops.toList.toArray false) Q ⟨T, O, nx, []⟩ := AWP.region (wpOps_ok hG (fun _ hs => hs) ops.toList T O nx h)
      rw [Array.toArray_toList] at hr
      exact hr
    · have hr : AWP C m G.N (.region id ops.toList.toArray true) Q ⟨T, O, nx, []⟩ := wpD_ok hG (fun _ hs => hs) ops.toList [] T (by simp) trivial rfl h
      rw [Array.toArray_toList] at hr
      exact hr
  | .loop x, Q, s, hL, h => by
    simp only [wpC] at h
    split at h
    · rename_i L hl
      exact hL (.loop x, L) (by simp [loopsOf, hl]) s Q h
    · rename_i hl
      have hx := fun Q s => wpC_ok x Q s (fun p hp => hL p (by simp [loopsOf, hl, hp]))
      intro E hE bs a w hr
      refine wp_loop_rounds G.fuel ?_
      have key : ∀ n s bs a w, iterP (wpC G x) n Q s → RepS C E G.N s bs a w → Code.rounds C.P x (QC C E G.N Q) n a w := by
        intro n
        induction n with
        | zero => exact fun _ _ _ _ h _ => h.elim
        | succ n ih =>
          intro s bs a w h hr
          rw [rounds_succ]
          refine wp_mono (hx _ _ h E hE bs a w hr) ?_
          rintro e a w ⟨s', bs', hq, hr'⟩
          cases e with
          | normal => exact ih s' bs' a w hq hr'
          | exit id => exact ⟨s', bs', hq, hr'⟩
          | goto l => exact ⟨s', bs', hq, hr'⟩
          | ret => exact ⟨s', bs', hq, hr'⟩
          | panic c => exact ⟨s', bs', hq, hr'⟩
          | outgrown => exact ⟨s', bs', hq, hr'⟩
      exact key _ s bs a w h hr
  | .rangeFunc _ _ _ _, _, _, _, h => h.elim
  | .scope x, Q, s, hL, h => by
    have hx := wpC_ok x (noGotoA Q) s hL h
    intro E hE bs a w hr
    refine wp_scope_straight (wp_mono (hx E hE bs a w hr) ?_)
    rintro e a w ⟨s', bs', hq, hr'⟩
    cases e with
    | goto l => exact hq.elim
    | normal => exact ⟨s', bs', hq, hr'⟩
    | exit id => exact ⟨s', bs', hq, hr'⟩
    | ret => exact ⟨s', bs', hq, hr'⟩
    | panic c => exact ⟨s', bs', hq, hr'⟩
    | outgrown => exact ⟨s', bs', hq, hr'⟩
  | .goto l, Q, s, _, h => fun _ _ bs _ _ hr => wp_goto ⟨s, bs, h, hr⟩
  | .refuse _, _, _, _, h => h.elim
end

theorem canO_back {m : Nat} {ρ : List (Nat × Nat)} {O : List (Nat × AObj)} : ∀ {l : List (Nat × Nat)} {O' : List (Nat × AObj)}, (∀ p ∈ l, ren m ρ p.1 = some p.2) → canO m ρ O l = some O' → (∀ p ∈ O', rowVC1 p.2 True) → OBack (ren m ρ) O O'
  | [], O', _, h, _ => by simp only [canO, Option.some.injEq] at h; subst h; trivial
  | (r, k) :: l, O', hl, h, hv => by
    simp only [canO] at h
    split at h
    · rename_i O2 h2
      have ih := canO_back (fun p hp => hl p (List.mem_cons_of_mem _ hp)) h2
      split at h
      · rename_i o ho
        split at h
        · split at h
          · rename_i o' ho'
            simp only [Option.some.injEq] at h
            subst h
            exact ⟨⟨r, o, hl (r, k) (by simp), ho, rnO?_le ho' (hv (k, o') (by simp))⟩, ih fun p hp => hv p (List.mem_cons_of_mem _ hp)⟩
          · cases h
        · simp only [Option.some.injEq] at h
          subst h; exact ih hv
      · simp only [Option.some.injEq] at h
        subst h; exact ih hv
    · cases h

theorem canT_le {ρ : Nat → Option Nat} {T : List (Nat × AV)} : ∀ {l : List Nat} {T' : List (Nat × AV)}, canT ρ T l = some T' → TLe ρ T T'
  | [], T', h => by simp only [canT, Option.some.injEq] at h; subst h; trivial
  | d :: l, T', h => by
    simp only [canT] at h
    split at h
    · rename_i u T2 hu h2
      simp only [Option.some.injEq] at h
      subst h
      exact ⟨⟨u, hu, rfl⟩, canT_le h2⟩
    · cases h

theorem ren_lo {m : Nat} {ρ : List (Nat × Nat)} {r : Nat} (h : r < m) : ren m ρ r = some r := by
  have : Nat.blt r m = true := by simpa [Nat.blt_eq] using h
  simp [ren, this]

theorem numR_ren {m : Nat} : ∀ {l : List Nat} {k : Nat}, ndB l = true → ∀ p ∈ numR m l k, lk (numR m l k) p.1 = some p.2 ∧ ¬ p.1 < m
  | [], k, _, p, hp => by simp [numR] at hp
  | r :: l, k, hn, p, hp => by
    simp only [ndB, Bool.and_eq_true, Bool.not_eq_true'] at hn
    simp only [numR] at hp ⊢
    cases hb : Nat.blt r m with
    | true => rw [hb] at hp; exact numR_ren hn.2 p hp
    | false =>
      rw [hb] at hp
      have hge : ¬ r < m := fun h => by
        have : Nat.blt r m = true := by simpa [Nat.blt_eq] using h
        rw [hb] at this; cases this
      rcases List.mem_cons.1 hp with rfl | hp
      · exact ⟨by rw [lk_cons]; simp, hge⟩
      · obtain ⟨h1, h2⟩ := numR_ren hn.2 p hp
        refine ⟨?_, h2⟩
        rw [lk_cons]
        have : r ≠ p.1 := by
          intro e
          have hm : ∀ (l : List Nat) (k : Nat), p ∈ numR m l k → p.1 ∈ l := by
            intro l
            induction l with
            | nil => intro k h; simp [numR] at h
            | cons x l ih =>
              intro k h
              simp only [numR] at h
              cases hx : Nat.blt x m with
              | true => rw [hx] at h; exact List.mem_cons_of_mem _ (ih _ h)
              | false =>
                rw [hx] at h
                rcases List.mem_cons.1 h with rfl | h
                · simp
                · exact List.mem_cons_of_mem _ (ih _ h)
          have := hm l _ hp
          rw [← e] at this
          rw [(hasN_iff _ _).2 this] at hn
          cases hn.1
        simp [this, h1]

theorem closeR_nd (te : TE) (O : List (Nat × AObj)) : ∀ (k : Nat) (todo seen : List Nat), ndB seen.reverse = true → (∀ x, hasN seen x = hasN seen.reverse x) → ndB (closeR te O k todo seen).reverse = true
  | 0, _, seen, h, _ => h
  | k + 1, [], seen, h, _ => h
  | k + 1, r :: todo, seen, h, hs => by
    simp only [closeR]
    split
    · exact closeR_nd te O k todo seen h hs
    · rename_i hr
      split
      · split
        · refine closeR_nd te O k _ _ ?_ ?_
          · simp only [List.reverse_append, List.reverse_cons, List.reverse_nil, List.nil_append, List.cons_append, ndB, h, Bool.and_true, ← hs, hr, Bool.not_false]
          · intro x
            have e : ∀ l : List Nat, hasN l x = hasN l.reverse x := by
              intro l
              cases h1 : hasN l x with
              | true => exact ((hasN_iff _ _).2 (by simpa using (hasN_iff _ _).1 h1)).symm
              | false =>
                cases h2 : hasN l.reverse x with
                | false => rfl
                | true =>
                  have := (hasN_iff _ _).1 h2
                  rw [(hasN_iff _ _).2 (by simpa using this)] at h1
                  cases h1
            exact e _
        · exact closeR_nd te O k todo seen h hs
      · exact closeR_nd te O k todo seen h hs

theorem ndB_iff (l : List Nat) : ndB l = true ↔ l.Nodup := by
  constructor
  · exact ndB_nodup
  · induction l with
    | nil => intro; rfl
    | cons x l ih =>
      intro h
      rw [List.nodup_cons] at h
      simp only [ndB, Bool.and_eq_true, Bool.not_eq_true']
      refine ⟨?_, ih h.2⟩
      cases hb : hasN l x with
      | false => rfl
      | true => exact absurd ((hasN_iff _ _).1 hb) h.1

theorem closeR_ndB (te : TE) (O : List (Nat × AObj)) (k : Nat) (todo : List Nat) : ndB (closeR te O k todo []) = true := by
  have := closeR_nd te O k todo [] rfl (fun _ => rfl)
  rw [ndB_iff] at this ⊢
  exact List.pairwise_reverse.1 this |>.imp fun h => Ne.symm h

theorem ren_num {m : Nat} {l : List Nat} (h : ndB l = true) : ∀ p ∈ ((List.range m).map fun r => (r, r)) ++ numR m l m, ren m (numR m l m) p.1 = some p.2 := by
  intro p hp
  rcases List.mem_append.1 hp with hp | hp
  · obtain ⟨r, hr, rfl⟩ := List.mem_map.1 hp
    exact ren_lo (List.mem_range.1 hr)
  · obtain ⟨h1, h2⟩ := numR_ren h p hp
    have : Nat.blt p.1 m = false := by
      cases hb : Nat.blt p.1 m with
      | false => rfl
      | true => exact absurd (by simpa [Nat.blt_eq] using hb) h2
    simp [ren, this, h1]

theorem OLe.rows {σ : Nat → Option Nat} {o : AObj} {t : TypeId} {sz n : Nat} {f f' : Nat → List AV} {fr : Bool} (h : OLe σ o (.row t sz n f fr)) (hf : ∀ i, i < n → f i = f' i) : OLe σ o (.row t sz n f' fr) := by
  cases o <;> simp only [OLe] at h ⊢
  obtain ⟨h1, h2, h3, h4, h5⟩ := h
  subst h3
  exact ⟨h1, h2, rfl, h4, fun i hi => (h5 i hi).trans (hf i hi)⟩

theorem OBack.rowsEq {σ : Nat → Option Nat} {O : List (Nat × AObj)} : ∀ {l l' : List (Nat × AObj)}, OBack σ O l → RowsEq l l' → OBack σ O l'
  | [], [], h, _ => h
  | (r, o) :: l, (r', o') :: l', h, he => by
    obtain ⟨⟨j, x, h1, h2, h3⟩, h4⟩ := h
    cases o with
    | row t sz n f fr =>
      cases o' with
      | row t' sz' n' f' fr' =>
        obtain ⟨⟨rfl, rfl, rfl, rfl, rfl, hf⟩, he⟩ := he
        exact ⟨⟨j, x, h1, h2, h3.rows hf⟩, OBack.rowsEq h4 he⟩
      | _ => exact absurd he.1 (by simp)
    | _ =>
      obtain ⟨e, he⟩ := he
      cases e
      exact ⟨⟨j, x, h1, h2, h3⟩, OBack.rowsEq h4 he⟩
  | [], _ :: _, _, he => he.elim
  | (_, o) :: _, [], _, he => by cases o <;> exact he.elim

theorem rowVC1_true (o : AObj) (h : ∀ t sz n f fr, o = .row t sz n f fr → ∀ i, i < n → nrefL (f i) = true) : rowVC1 o True := by
  cases o with
  | row t sz n f fr => exact ⟨h _ _ _ _ _ rfl, trivial⟩
  | _ => trivial

theorem RowsEq.vc : ∀ {l l' : List (Nat × AObj)}, RowsEq l l' → (∀ p ∈ l', rowVC1 p.2 True) → ∀ p ∈ l, rowVC1 p.2 True
  | [], [], _, _, p, hp => by simp at hp
  | (r, o) :: l, (r', o') :: l', he, hv, p, hp => by
    cases o with
    | row t sz n f fr =>
      cases o' with
      | row t' sz' n' f' fr' =>
        obtain ⟨⟨rfl, rfl, rfl, rfl, rfl, hf⟩, he⟩ := he
        rcases List.mem_cons.1 hp with rfl | hp
        · have := hv _ (List.mem_cons_self ..)
          exact ⟨fun i hi => by rw [hf i hi]; exact this.1 i hi, trivial⟩
        · exact RowsEq.vc he (fun q hq => hv q (List.mem_cons_of_mem _ hq)) p hp
      | _ => exact absurd he.1 (by simp)
    | _ =>
      obtain ⟨e, he⟩ := he
      cases e
      rcases List.mem_cons.1 hp with rfl | hp
      · exact hv _ (List.mem_cons_self ..)
      · exact RowsEq.vc he (fun q hq => hv q (List.mem_cons_of_mem _ hq)) p hp
  | [], _ :: _, he, _, _, _ => he.elim
  | (_, o) :: _, [], he, _, _, _ => by cases o <;> exact he.elim

theorem canon_weak {te : TE} {m : Nat} {F : List Nat} {s s' : St} (h : canon te m F s = some s') (hv : ∀ p ∈ s'.O, rowVC1 p.2 True) : ∃ ρ, Weak m ρ s s' := by
  obtain ⟨T, O, nx, dec⟩ := s
  unfold canon at h
  dsimp only at h
  split at h
  · rename_i hr
    split at h
    · rename_i T' O' hT hO
      simp only [Option.some.injEq] at h
      subst h
      exact ⟨_, Weak.of _ hr (canT_le hT) (canO_back (ren_num (closeR_ndB _ _ _ _)) hO hv) (Nat.le_add_right _ _)⟩
    · cases h
  · cases h

theorem canonIs_of {te : TE} {m : Nat} {F : List Nat} {s s' : St} (h : canon te m F s = some s') (hn : hasRow s'.O = false) : canonIs te m F s s' := by
  unfold canonIs
  rw [h]
  dsimp only
  rw [hn]

theorem canonIs_weak {te : TE} {m : Nat} {F : List Nat} {s s' : St} (h : canonIs te m F s s') (hv : ∀ p ∈ s'.O, rowVC1 p.2 True) : ∃ ρ, Weak m ρ s s' := by
  unfold canonIs at h
  split at h
  · rename_i s2 hs
    split at h
    · cases hn : Nat.beq s2.nx s'.nx with
      | false => rw [hn] at h; exact h.elim
      | true =>
      rw [hn] at h
      replace hn := Nat.eq_of_beq_eq_true hn
      obtain ⟨hT, hO⟩ := h
      unfold TEq at hT
      have hs' := hs
      obtain ⟨T, O, nx, dec⟩ := s
      unfold canon at hs'
      dsimp only at hs'
      split at hs'
      · rename_i hr
        split at hs'
        · rename_i T' O' hcT hcO
          simp only [Option.some.injEq] at hs'
          subst hs'
          obtain ⟨T3, O3, nx3, dec3⟩ := s'
          simp only at hT hO hn hv
          subst hT; subst hn
          exact ⟨_, Weak.of _ hr (canT_le hcT) ((canO_back (ren_num (closeR_ndB _ _ _ _)) hcO (hO.vc hv)).rowsEq hO) (Nat.le_add_right _ _)⟩
        · cases hs'
      · cases hs'
    · simp only [Option.some.injEq] at h
      subst h
      exact canon_weak hs hv
  · exact h.elim

theorem AWP.canonIs {C : Ctx} {te : TE} {m N : Nat} {c : Code} {Q : Exit → St → Prop} {s s' : St} (F : List Nat) (h : Eng.canonIs te m F s s') (k : AWP C m N c Q s') (hv : rowVC s'.O True) : AWP C m N c Q s := by
  obtain ⟨ρ, hw⟩ := canonIs_weak h (rowVC_elim hv).1
  exact AWP.weak hw k

theorem AWP.canon {C : Ctx} {te : TE} {m N : Nat} {c : Code} {Q : Exit → St → Prop} {s s' : St} (F : List Nat) (h : canon te m F s = some s') (k : AWP C m N c Q s') (hv : ∀ p ∈ s'.O, rowVC1 p.2 True := by intro p hp; simp at hp) : AWP C m N c Q s := by
  obtain ⟨ρ, hw⟩ := canon_weak h hv
  exact AWP.weak hw k

/-- A loop, its states told by canonical forms. -/
theorem AWP.loopF {C : Ctx} {G : Env} (hG : EnvOK C G) {m : Nat} {x : Code} {Q : Exit → St → Prop} {s : St} (F : List Nat) {ι : Type} (S : ι → St) (I : ι → Prop) (μ : ι → Nat) (i0 : ι) (hI : I i0) (hS : ∀ i, rowVC (S i).O True) (h0 : Eng.canonIs G.te m F s (S i0))
    (hL : ∀ p ∈ loopsOf G.loops x, ∀ s Q, p.2 s Q → AWP C m G.N p.1 Q s)
    (round : ∀ i, I i → wpC G x (thenA (fun s' => ∃ i', Eng.canonIs G.te m F s' (S i') ∧ I i' ∧ μ i' < μ i) Q) (S i)) : AWP C m G.N (.loop x) Q s := by
  obtain ⟨ρ0, hw⟩ := canonIs_weak h0 (rowVC_elim (hS i0)).1
  refine AWP.loop S I μ i0 hI hw fun i hi => (wpC_ok hG x _ _ hL (round i hi)).mono fun e s hq => thenA_mono (fun s hs => ?_) e s hq
  obtain ⟨i', h3, h1, h2⟩ := hs
  obtain ⟨ρ, hw'⟩ := canonIs_weak h3 (rowVC_elim (hS i')).1
  exact ⟨i', ρ, h1, h2, hw'⟩

theorem resA_tmps {te : TE} {T : Nat → Option AV} {O : Nat → Option AObj} : ∀ {rs : List ResultVar} {us : List AV} {vc : Prop}, resA te T O rs = some (us, vc) → tmpsR rs = true → vc
  | [], us, vc, h, _ => by simp only [resA, Option.some.injEq, Prod.mk.injEq] at h; rw [← h.2]; trivial
  | .tmp t :: l, us, vc, h, ht => by
    simp only [resA] at h
    split at h
    · rename_i u us' vc' hu hl
      simp only [Option.some.injEq, Prod.mk.injEq] at h
      obtain ⟨_, rfl⟩ := h
      exact resA_tmps hl ht
    · cases h
  | .cell _ _ :: _, _, _, _, ht => by cases ht

theorem rowR_back {σ : Nat → Option Nat} {O O' : List (Nat × AObj)} {R : List (Nat × AObj) → Prop} (hb : OBack σ O O') (h : rowR O' R) : ∃ O2, OBack σ O O2 ∧ R O2 := by
  unfold rowR at h
  split at h
  · obtain ⟨O2, he, hR⟩ := h
    exact ⟨O2, OBack.rowsEq hb he, hR⟩
  · exact ⟨O', hb, h⟩

theorem finP_ok {te : TE} {rs : List ResultVar} {m : Nat} {R : AV → List (Nat × AObj) → Prop} {s : St} {e : Exit} (he : e = .normal ∨ e = .ret) (h : finP te rs m R s) : bodyA te rs m R e s := by
  obtain ⟨T, O, nx, dec⟩ := s
  unfold finP at h
  dsimp only at h
  split at h
  · rename_i us vc hr
    split at h
    · rename_i hc
      simp only [Bool.and_eq_true] at hc
      split at h
      · rename_i O' hO
        obtain ⟨h1, h2⟩ := vcP_elim (resA_tmps hr) h
        obtain ⟨hv, h2⟩ := rowVC_elim h2
        obtain ⟨O2, hb, h2⟩ := rowR_back (canO_back (ren_num (closeR_ndB _ _ _ _)) hO hv) h2
        refine ⟨he, us, vc, hr, h1, _, ⟨[], O2, _, []⟩, Weak.of _ hc.1 trivial hb (Nat.le_add_right _ _), ?_, h2⟩
        have := Nat.le_of_ble_eq_true hc.2
        exact Nat.add_le_add_left this m
      · exact h.elim
    · exact h.elim
  · exact h.elim

theorem endP_ok {te : TE} {rs : List ResultVar} {m : Nat} {R : AV → List (Nat × AObj) → Prop} {s : St} {e : Exit} (h : endP te rs m R e s) : bodyA te rs m R e s := by
  cases e with
  | normal => exact finP_ok (.inl rfl) h
  | ret => exact finP_ok (.inr rfl) h
  | exit _ => exact h.elim
  | goto _ => exact h.elim
  | panic _ => exact h.elim
  | outgrown => exact h.elim

/-- A function's promise out of its weakest precondition. -/
theorem ACalls.wp {C : Ctx} {te : TE} {calls : List (Nat × CSpec)} {loops : List (Nat × LSpec)} {fuel : Nat} {f : FuncId} {fn : Func} {args : List AV} {objs : List AObj} {R : AV → List (Nat × AObj) → Prop}
    (hte : TE.ok C.P te) (hn : ∀ t ti, lk te t = some ti → isAggD ti.desc = false → ti.sz = 1) (hc : ∀ f S, lk calls f = some S → CSpecOK C f S)
    (hf : C.P.funcs[f]? = some fn) (hb : fn.body.isSome = true) (hname : (fn.name == "runtime.NumGoroutine") = false) (hl : Nat.ble args.length fn.ntmps = true)
    (hL : ∀ p ∈ loopsOf loops (bodyC fn), ∀ s Q, p.2 s Q → AWP C objs.length fn.ntmps p.1 Q s)
    (h : wpFn te calls loops fuel fn args objs R) : ACalls C f args objs R := by
  have hb' : fn.body = some (bodyC fn) := by
    unfold bodyC
    cases hx : fn.body with
    | none => rw [hx] at hb; cases hb
    | some c => rfl
  refine ACalls.body hte hn hf hb' hname rfl hl ?_
  have hG : EnvOK C ⟨te, calls, loops, objs.length, fn.ntmps, fuel⟩ := ⟨hte, hn, hc⟩
  exact (wpC_ok hG (m := objs.length) (bodyC fn) _ _ hL h).mono fun e s hq => endP_ok hq

theorem calls_nil {C : Ctx} : ∀ f S, lk ([] : List (Nat × CSpec)) f = some S → CSpecOK C f S := fun f S h => by cases h
theorem calls_cons {C : Ctx} {f : Nat} {S : CSpec} {l : List (Nat × CSpec)} (h : CSpecOK C f S) (hl : ∀ f S, lk l f = some S → CSpecOK C f S) : ∀ f' S', lk ((f, S) :: l) f' = some S' → CSpecOK C f' S' := by
  intro f' S' hh
  rw [lk_cons] at hh
  split at hh
  · rename_i e
    have e' : f = f' := e
    subst e'
    simp only [Option.some.injEq] at hh
    subst hh
    exact h
  · exact hl _ _ hh

end Go.Eng
/- The weakest precondition as a function: its use. -/
namespace Go.Eng

theorem condP_dec {p : Prop} [Decidable p] {P Q : Prop} (h1 : p → P) (h2 : ¬ p → Q) : condP (decide p) P Q := condP_intro (fun h => h1 (of_decide_eq_true h)) (fun h => h2 (of_decide_eq_false h))
theorem condP_ndec {p : Prop} [Decidable p] {P Q : Prop} (h1 : ¬ p → P) (h2 : p → Q) : condP (!decide p) P Q := by
  by_cases h : p
  · rw [decide_eq_true h]; exact h2 h
  · rw [decide_eq_false h]; exact h1 h
theorem condP_not {b : Bool} {P Q : Prop} (h1 : b = false → P) (h2 : b = true → Q) : condP (!b) P Q := by
  cases b with
  | true => exact h2 rfl
  | false => exact h1 rfl

def LoopOK (C : Ctx) (m N : Nat) (c : Code) (L : LSpec) : Prop := ∀ s Q, L s Q → AWP C m N c Q s

def LoopsOK (C : Ctx) (m N : Nat) : List (Code × LSpec) → Prop
  | [] => True
  | (c, L) :: l => LoopOK C m N c L ∧ LoopsOK C m N l

theorem LoopsOK.all {C : Ctx} {m N : Nat} : ∀ {l : List (Code × LSpec)}, LoopsOK C m N l → ∀ p ∈ l, ∀ s Q, p.2 s Q → AWP C m N p.1 Q s
  | [], _, p, hp => by simp at hp
  | (c, L) :: l, h, p, hp => by
    rcases List.mem_cons.1 hp with rfl | hp
    · exact h.1
    · exact LoopsOK.all h.2 p hp

theorem loopsOf_nil : ∀ c : Code, loopsOf [] c = []
  | .seq x y => by simp [loopsOf, loopsOf_nil x, loopsOf_nil y]
  | .block _ x => by simp [loopsOf, loopsOf_nil x]
  | .cond _ x y => by simp [loopsOf, loopsOf_nil x, loopsOf_nil y]
  | .loop x => by simp [loopsOf, lk, loopsOf_nil x]
  | .skip => rfl
  | .region _ _ _ => by simp [loopsOf, lk]
  | .rangeFunc _ _ _ _ => rfl
  | .exit _ => rfl
  | .scope x => by simp [loopsOf, loopsOf_nil x]
  | .label _ => rfl
  | .goto _ => rfl
  | .ret => rfl
  | .refuse _ => rfl

/-- The program, its types, its name. -/
structure Prg (C : Ctx) (te : TE) : Prop where
  ok : TE.ok C.P te
  one : ∀ t ti, lk te t = some ti → isAggD ti.desc = false → ti.sz = 1

def CallsOK (C : Ctx) (calls : List (Nat × CSpec)) : Prop := ∀ f S, lk calls f = some S → CSpecOK C f S
theorem CallsOK.nil {C : Ctx} : CallsOK C [] := calls_nil
theorem CallsOK.cons {C : Ctx} {f : Nat} {S : CSpec} {l : List (Nat × CSpec)} (h : CSpecOK C f S) (hl : CallsOK C l) : CallsOK C ((f, S) :: l) := calls_cons h hl

/-- Without loops, or with loops that are run. -/
theorem SpecOK.wp0 {C : Ctx} {te : TE} (hte : Prg C te) (calls : List (Nat × CSpec)) (fuel : Nat) (hc : CallsOK C calls) {f : FuncId} {fn : Func} {args : List AV} {objs : List AObj} {U : AV} {Os : List (Nat × AObj)}
    (hf : C.P.funcs[f]? = some fn) (hb : fn.body.isSome = true) (hname : (fn.name == "runtime.NumGoroutine") = false) (hl : Nat.ble args.length fn.ntmps = true)
    (h : wpFn te calls [] fuel fn args objs (fun u O => u = U ∧ O = Os)) : ADet C f args objs U Os :=
  ACalls.wp hte.ok hte.one hc hf hb hname hl (by rw [loopsOf_nil]; intro p hp; simp at hp) h

/-- Whatever is promised. -/
theorem RSpecOK.wpL {C : Ctx} {te : TE} (hte : Prg C te) (calls : List (Nat × CSpec)) (loops : List (Nat × LSpec)) (fuel : Nat) (hc : CallsOK C calls) {f : FuncId} {fn : Func} {args : List AV} {objs : List AObj} {R : AV → List (Nat × AObj) → Prop}
    (hf : C.P.funcs[f]? = some fn) (hb : fn.body.isSome = true) (hname : (fn.name == "runtime.NumGoroutine") = false) (hl : Nat.ble args.length fn.ntmps = true)
    (ls : List (Code × LSpec)) (hls : loopsOf loops (bodyC fn) = ls) (hL : LoopsOK C objs.length fn.ntmps ls)
    (h : wpFn te calls loops fuel fn args objs R) : ACalls C f args objs R :=
  ACalls.wp hte.ok hte.one hc hf hb hname hl (by rw [hls]; exact hL.all) h

/-- With loops that have promises. -/
theorem SpecOK.wpL {C : Ctx} {te : TE} (hte : Prg C te) (calls : List (Nat × CSpec)) (loops : List (Nat × LSpec)) (fuel : Nat) (hc : CallsOK C calls) {f : FuncId} {fn : Func} {args : List AV} {objs : List AObj} {U : AV} {Os : List (Nat × AObj)}
    (hf : C.P.funcs[f]? = some fn) (hb : fn.body.isSome = true) (hname : (fn.name == "runtime.NumGoroutine") = false) (hl : Nat.ble args.length fn.ntmps = true)
    (ls : List (Code × LSpec)) (hls : loopsOf loops (bodyC fn) = ls) (hL : LoopsOK C objs.length fn.ntmps ls)
    (h : wpFn te calls loops fuel fn args objs (fun u O => u = U ∧ O = Os)) : ADet C f args objs U Os :=
  ACalls.wp hte.ok hte.one hc hf hb hname hl (by rw [hls]; exact hL.all) h

/-- The ways out of a loop, with some slots alone: behind a break (or the test), at a return. -/
def canQ (te : TE) (m : Nat) (Fe Fr : List Nat) (Q : Exit → St → Prop) : Exit → St → Prop
  | .ret, s => match canon te m Fr s with
    | some s' => rowVC s'.O (rowR s'.O fun O' => Q .ret ⟨s'.T, O', s'.nx, []⟩)
    | none => False
  | e, s => match canon te m Fe s with
    | some s' => rowVC s'.O (rowR s'.O fun O' => Q e ⟨s'.T, O', s'.nx, []⟩)
    | none => False

theorem canQ_weak {te : TE} {m : Nat} {Fe Fr : List Nat} {Q : Exit → St → Prop} {e : Exit} {s : St} (h : canQ te m Fe Fr Q e s) : ∃ ρ s', Weak m ρ s s' ∧ Q e s' := by
  have key : ∀ F, (match canon te m F s with
    | some s' => rowVC s'.O (rowR s'.O fun O' => Q e ⟨s'.T, O', s'.nx, []⟩)
    | none => False) → ∃ ρ s', Weak m ρ s s' ∧ Q e s' := by
    intro F h
    split at h
    · rename_i s' hs
      obtain ⟨hv, h⟩ := rowVC_elim h
      obtain ⟨T, O, nx, dec⟩ := s
      unfold canon at hs
      dsimp only at hs
      split at hs
      · rename_i hr
        split at hs
        · rename_i T' O' hcT hcO
          simp only [Option.some.injEq] at hs
          subst hs
          obtain ⟨O2, hb, hQ⟩ := rowR_back (canO_back (ren_num (closeR_ndB _ _ _ _)) hcO hv) h
          exact ⟨_, _, Weak.of _ hr (canT_le hcT) hb (Nat.le_add_right _ _), hQ⟩
        · cases hs
      · cases hs
    · exact h.elim
  unfold canQ at h
  split at h
  · exact key _ h
  · exact key _ h

theorem canQ_of {te : TE} {m : Nat} {Fe Fr : List Nat} {Q : Exit → St → Prop} {e : Exit} {s s' : St} (he : e ≠ .ret) (hs : canon te m Fe s = some s') (h : rowVC s'.O (rowR s'.O fun O' => Q e ⟨s'.T, O', s'.nx, []⟩)) : canQ te m Fe Fr Q e s := by
  unfold canQ
  split
  · exact absurd rfl he
  · rw [hs]; exact h

theorem AWP.canQ {C : Ctx} {te : TE} {m N : Nat} {c : Code} {Fe Fr : List Nat} {Q : Exit → St → Prop} {s : St} (h : AWP C m N c (Eng.canQ te m Fe Fr Q) s) : AWP C m N c Q s := by
  intro E hE bs a w hr
  subst hE
  refine wp_mono (h E rfl bs a w hr) ?_
  rintro e a w ⟨s', bs', hq, hr'⟩
  obtain ⟨ρ, s2, hw, hQ⟩ := canQ_weak hq
  obtain ⟨bs2, hr2, _⟩ := hr'.weak hw
  exact ⟨s2, bs2, hQ, hr2⟩

/-- A round of a loop: behind it the next index (P), or a way out. -/
def roundP (G : Env) (x : Code) (F Fe Fr : List Nat) {ι : Type} (S : ι → St) (P : ι → Prop) (Q : Exit → St → Prop) (s : St) : Prop :=
  wpC G x (thenA (fun s' => ∃ i', canonIs G.te G.m F s' (S i') ∧ P i') (Eng.canQ G.te G.m Fe Fr Q)) s

/-- A loop without loops of its own that have promises. -/
theorem LoopOK.mk {C : Ctx} {te : TE} (hte : Prg C te) {m N : Nat} {x : Code} {s : St} {Q : Exit → St → Prop} (calls : List (Nat × CSpec)) (fuel : Nat) (hc : CallsOK C calls) (F Fe Fr : List Nat) {ι : Type} (S : ι → St) (I : ι → Prop) (μ : ι → Nat) (i0 : ι) (hI : I i0)
    (h0 : canonIs te m F s (S i0)) (round : ∀ i, I i → roundP ⟨te, calls, [], m, N, fuel⟩ x F Fe Fr S (fun i' => I i' ∧ μ i' < μ i) Q (S i)) (hS : ∀ i, rowVC (S i).O True := by intro i; trivial) : AWP C m N (.loop x) Q s :=
  (AWP.loopF (G := ⟨te, calls, [], m, N, fuel⟩) (Q := Eng.canQ te m Fe Fr Q) ⟨hte.ok, hte.one, hc⟩ F S I μ i0 hI hS h0 (by rw [loopsOf_nil]; intro p hp; simp at hp) fun i hi => round i hi).canQ

theorem LoopOK.mkL {C : Ctx} {te : TE} (hte : Prg C te) {m N : Nat} {x : Code} {s : St} {Q : Exit → St → Prop} (calls : List (Nat × CSpec)) (loops : List (Nat × LSpec)) (fuel : Nat) (hc : CallsOK C calls) (ls : List (Code × LSpec)) (hls : loopsOf loops x = ls) (hL : LoopsOK C m N ls)
    (F Fe Fr : List Nat) {ι : Type} (S : ι → St) (I : ι → Prop) (μ : ι → Nat) (i0 : ι) (hI : I i0)
    (h0 : canonIs te m F s (S i0)) (round : ∀ i, I i → roundP ⟨te, calls, loops, m, N, fuel⟩ x F Fe Fr S (fun i' => I i' ∧ μ i' < μ i) Q (S i)) (hS : ∀ i, rowVC (S i).O True := by intro i; trivial) : AWP C m N (.loop x) Q s :=
  (AWP.loopF (G := ⟨te, calls, loops, m, N, fuel⟩) (Q := Eng.canQ te m Fe Fr Q) ⟨hte.ok, hte.one, hc⟩ F S I μ i0 hI hS h0 (by rw [hls]; exact hL.all) fun i hi => round i hi).canQ

end Go.Eng
/- A nil slice as an own row of no element. -/
namespace Go.Eng

def ownNil (d t sz : Nat) (s : St) : St := match lk s.T d with
  | some .nil => ⟨(d, .own s.nx 0) :: rm d s.T, (s.nx, .row t sz 0 (fun _ => []) false) :: s.O, s.nx + 1, []⟩
  | _ => s

theorem RepS.ownNil {C : Ctx} {E : Ent} {N : Nat} {s : St} {bs : Nat → Option Hd} {a : Act} {w : World} (d t sz : Nat) (h : RepS C E N s bs a w) : ∃ bs', RepS C E N (ownNil d t sz s) bs' a w := by
  unfold Eng.ownNil
  split
  · rename_i hd
    obtain ⟨T, O, nx, dec⟩ := s
    obtain ⟨⟨hF, hW⟩, hnx, hm⟩ := h
    have hn := hnx nx (Nat.le_refl _)
    have hb0 : bs nx = none := hn.2
    have hO0 : lk O nx = none := hn.1
    let bs' := up bs nx .nil
    have hbs : ∀ r x, bs r = some x → bs' r = some x := fun r x hx => by
      have : nx ≠ r := fun e => by subst e; rw [hb0] at hx; cases hx
      show up bs nx .nil r = some x
      rw [up_other _ _ _ this]; exact hx
    have hbk : ∀ r b c, bs' r = some (.blk b c) → bs r = some (.blk b c) := fun r b c hx => by
      by_cases hr : nx = r
      · subst hr
        have : up bs nx .nil nx = some (.blk b c) := hx
        rw [up_same] at this; cases this
      · have : up bs nx .nil r = some (.blk b c) := hx
        rwa [up_other _ _ _ hr] at this
    have hlk : ∀ r o, lk ((nx, AObj.row t sz 0 (fun _ => []) false) :: O) r = some o → (r = nx ∧ o = .row t sz 0 (fun _ => []) false) ∨ (r ≠ nx ∧ lk O r = some o) := fun r o ho => by
      rw [lk_cons] at ho
      split at ho
      · rename_i e
        have e' : nx = r := e
        simp only [Option.some.injEq] at ho
        exact .inl ⟨e'.symm, ho.symm⟩
      · rename_i e
        exact .inr ⟨fun e' => e e'.symm, ho⟩
    have hmb : ∀ b, mutB (lk ((nx, AObj.row t sz 0 (fun _ => []) false) :: O)) bs' b → mutB (lk O) bs b := by
      rintro b ⟨r, o, c, ho, hmu, hb⟩
      rcases hlk r o ho with ⟨rfl, rfl⟩ | ⟨hne, ho⟩
      · have := hbk _ _ _ hb
        rw [hb0] at this; cases this
      · exact ⟨r, o, c, ho, hmu, hbk _ _ _ hb⟩
    have hMB : ∀ b, MB E (lk ((nx, AObj.row t sz 0 (fun _ => []) false) :: O)) bs' b → MB E (lk O) bs b := fun b hb => hb.imp id (hmb b)
    have vm : ∀ {v : Value} {u : AV}, V w (MB E (lk O) bs) bs v u → V w (MB E (lk ((nx, AObj.row t sz 0 (fun _ => []) false) :: O)) bs') bs' v u := fun h =>
      h.step_ (fun b _ hb hb' => hb (hMB b hb')) (fun _ _ _ => rfl) (Nat.le_refl _) _ hbs
    have hS : Step w (MB E (lk O) bs) bs w (MB E (lk ((nx, AObj.row t sz 0 (fun _ => []) false) :: O)) bs') bs' := ⟨hbs, fun b _ hb hb' => hb (hMB b hb'), fun _ _ _ => rfl, Nat.le_refl _⟩
    refine ⟨bs', ⟨⟨hF.1, hF.2.1, fun i u hu => ?_⟩, ?_⟩, fun r hr => ?_, Nat.le_succ_of_le hm⟩
    · have hu' : lk ((d, AV.own nx 0) :: rm d T) i = some u := hu
      rw [lk_rm, lk_cons] at hu'
      split at hu'
      · rename_i e
        have e' : d = i := e
        subst e'
        simp only [Option.some.injEq] at hu'
        subst hu'
        obtain ⟨v, hv, hV⟩ := hF.2.2 d _ hd
        cases hV
        exact ⟨_, hv, .ownnil (up_same _ _ _) rfl⟩
      · obtain ⟨v, hv, hV⟩ := hF.2.2 i u hu'
        exact ⟨v, hv, vm hV⟩
    · exact {
        obj := fun r o ho => by
          rcases hlk r o ho with ⟨rfl, rfl⟩ | ⟨hne, ho⟩
          · exact .inl ⟨up_same _ _ _, rfl⟩
          · exact (hW.obj r o ho).step hS fun _ _ _ => rfl
        sep := fun r r' o1 o2 b c c' h1 h2 m1 m2 b1 b2 => by
          rcases hlk r o1 h1 with ⟨rfl, rfl⟩ | ⟨hne, h1⟩
          · have := hbk _ _ _ b1
            rw [hb0] at this; cases this
          · rcases hlk r' o2 h2 with ⟨rfl, rfl⟩ | ⟨hne', h2⟩
            · have := hbk _ _ _ b2
              rw [hb0] at this; cases this
            · exact hW.sep r r' o1 o2 b c c' h1 h2 m1 m2 (hbk _ _ _ b1) (hbk _ _ _ b2)
        out := fun b hb => hW.out b (hmb b hb)
        frz := fun r t' sz' n f b c ho hb hM => by
          rcases hlk r _ ho with ⟨rfl, h⟩ | ⟨hne, ho⟩
          · cases h
          · exact hW.frz r t' sz' n f b c ho (hbk _ _ _ hb) (hMB b hM)
        high := fun b hb => hW.high b (hMB b hb)
        lt := fun r b c hb => hW.lt r b c (hbk _ _ _ hb)
        outlt := hW.outlt
        keep := hW.keep
        old := fun b hb => hW.old b (hmb b hb)
        size := hW.size
        pre := fun r x hr hb => hbs r x (hW.pre r x hr hb)
        os := hW.os
        tape := hW.tape
        output := hW.output
        laid := hW.laid
        gle := hW.gle }
    · have hr' : nx + 1 ≤ r := hr
      obtain ⟨q1, q2⟩ := hnx r (show nx ≤ r by omega)
      refine ⟨?_, ?_⟩
      · show lk ((nx, AObj.row t sz 0 (fun _ => []) false) :: O) r = none
        rw [lk_cons]
        have : nx ≠ r := by omega
        simp [this, q1]
      · show up bs nx .nil r = none
        rw [up_other _ _ _ (by omega)]; exact q2
  · exact ⟨bs, h⟩

theorem AWP.ownNil {C : Ctx} {m N : Nat} {c : Code} {Q : Exit → St → Prop} {s : St} (d t sz : Nat) (h : AWP C m N c Q (Eng.ownNil d t sz s)) : AWP C m N c Q s := by
  intro E hE bs a w hr
  obtain ⟨bs', hr'⟩ := hr.ownNil d t sz
  exact h E hE bs' a w hr'

end Go.Eng
