import Derived.Test.YtcglbpjpbjaecaaGreatS11
set_option linter.unusedVariables false
set_option linter.unusedSimpArgs false
namespace Go.Ab
open Go Go.RowKit
structure FD where
  nt : Nat
  rs : List ResultVar
  code : Code
  flat : Bool
  df : Bool
structure Exs where
  ex : CallF
  exd : CallF
def DCallOk (P : Program) (ex : CallF) : Prop := ∀ (R : Type) (f : FuncId) (args : List V) (H : HT) (K : AEnd → HT → Option R) (r : R), H.Own → ex R f args H K = some r →
  ∃ ae H', HT.ext H H' ∧ K ae H' = some r ∧ entersOk P f = true ∧ ACallsD P f args H.ah fun ae' h' => ae' = ae ∧ h' = H'.ah
abbrev HdF := FuncId → List V → Option V
def HdOk (P : Program) (hd : HdF) : Prop := ∀ f args v, hd f args = some v → entersOk P f = true ∧ ∀ h, ACalls P f args h (pureE v h)
def FdOk (P : Program) (f : FuncId) (d : FD) : Prop := ∃ fn, P.funcs[f]? = some fn ∧ fn.body = some d.code ∧ fn.ntmps = d.nt ∧ fn.results.toList = d.rs ∧ entersOk P f = true
def TabOk (P : Program) (T : T8 FD) : Prop := ∀ f d, T8.get (path f) T = some d → FdOk P f d
section
variable {R : Type} (P : Program)
noncomputable def xOne (l : List V) (k : V → R) : R :=
  match l with
  | [v] => k v
  | l => k (.tup l)
theorem xOne_eq (l : List V) (k : V → R) : xOne l k = k (one l) := by
  cases l with
  | nil => rfl
  | cons a l => cases l <;> rfl
noncomputable def xSlots (E : XE) : List ResultVar → List V
  | [] => []
  | .tmp t :: rs => XE.get E t :: xSlots E rs
  | .cell a _ :: rs => XE.get E a :: xSlots E rs
theorem xSlots_eq {E : XE} {e : Env} (hs : Same e E) : ∀ rs, slotsOf e rs = xSlots E rs
  | [] => rfl
  | .tmp t :: rs => by simp only [slotsOf, xSlots, xSlots_eq hs rs, hs t]
  | .cell a t :: rs => by simp only [slotsOf, xSlots, xSlots_eq hs rs, hs a]
noncomputable def xEnd (rs : List ResultVar) (vs : List V) (H : HT) (K : AEnd → HT → Option R) : Option R :=
  match aResV P H.ah rs vs with
  | some l => xOne l fun v => K (.ret v) H
  | none => none
noncomputable def xLeaves (ex : CallF) (rs : List ResultVar) (vs : List V) (K : AEnd → HT → Option R) : List AD → Option V → HT → Option R
  | [], none, H => xEnd P rs vs H K
  | [], some v, H => K (.panic v) H
  | (k, l) :: ds, m, H => ex R k l H fun ae H => match ae with
    | .ret _ => xLeaves ex rs vs K ds m H
    | .panic _ => none
variable {P}
theorem xEnd_ok {rs : List ResultVar} {vs : List V} {H : HT} {K : AEnd → HT → Option R} {r : R} (h : xEnd P rs vs H K = some r) : ∃ l, aResV P H.ah rs vs = some l ∧ K (.ret (one l)) H = some r := by
  unfold xEnd at h
  split at h
  · rename_i l hl; rw [xOne_eq] at h; exact ⟨l, hl, h⟩
  · cases h
theorem xLeaves_ok {ex : CallF} (hx : DCallOk P ex) {rs : List ResultVar} {vs : List V} {K : AEnd → HT → Option R} {r : R} : ∀ (ds : List AD) (m : Option V) (H : HT), H.Own → xLeaves P ex rs vs K ds m H = some r →
    ∃ ae H', HT.ext H H' ∧ K ae H' = some r ∧ ∀ Q : AEnd → AH → Prop, Q ae H'.ah → aLeaves P rs Q vs ds m H.ah
  | [], none, H, _, h => by
    obtain ⟨l, h1, h2⟩ := xEnd_ok h
    exact ⟨_, H, HT.ext.refl _, h2, fun Q q => by simp only [aLeaves, h1, bindR]; exact q⟩
  | [], some v, H, _, h => ⟨_, H, HT.ext.refl _, h, fun Q q => q⟩
  | (k, l) :: ds, m, H, how, h => by
    simp only [xLeaves] at h
    obtain ⟨ae, H1, he, h, h1, c⟩ := hx _ _ _ _ _ _ how h
    cases ae with
    | panic _ => cases h
    | ret v =>
      obtain ⟨ae, H2, he2, h2, q2⟩ := xLeaves_ok hx ds m H1 (he.own how) h
      refine ⟨ae, H2, he.trans he2, h2, fun Q q => ?_⟩
      simp only [aLeaves]
      refine adc_of h1 ?_
      intro B ι W vs u F rr
      refine (c B ι W vs u F rr).mono ?_
      rintro e u' w' ⟨a1, ι', h', ae', a2, a3, a4, rfl, rfl⟩
      exact ⟨a1, ι', _, _, a2, a3, a4, v, rfl, q2 Q q⟩
variable (P)
noncomputable def xInit (args : List V) (i : Nat) (E : XE) (k : XE → R) : R :=
  match args with
  | [] => k E
  | v :: vs => T8.upd (some v) (path i) E fun E => xInit vs (i + 1) E k
noncomputable def exBody (X : Exs) (pu : FuncId → Bool) (d : FD) (args : List V) (H : HT) (K : AEnd → HT → Option R) : Option R :=
  fNat (args.length + (d.nt - args.length)) fun N => xInit args 0 .nil fun E =>
  match d.df with
  | true => exD P N X.ex pu d.code (fun x ds E H => match x with
      | .normal => xLeaves P X.exd d.rs (xSlots E d.rs) K ds none H
      | .ret => xLeaves P X.exd d.rs (xSlots E d.rs) K ds none H
      | .panic v => xLeaves P X.exd d.rs (xSlots E d.rs) K ds (some v) H
      | _ => none) [] E H
  | false => exC P N X.ex pu d.code (fun x E H => match x with
      | .normal => xEnd P d.rs (xSlots E d.rs) H K
      | .ret => xEnd P d.rs (xSlots E d.rs) H K
      | .panic v => K (.panic v) H
      | _ => none) E H
variable {P}
theorem xInit_spec : ∀ (args : List V) (i : Nat) (E : XE), ∃ E', (∀ (R : Type) (k : XE → R), xInit args i E k = k E') ∧ ∀ t, XE.get E' t = if i ≤ t then (args[t - i]?).getD (XE.get E t) else XE.get E t
  | [], i, E => ⟨E, fun _ _ => rfl, fun t => by simp⟩
  | v :: vs, i, E => by
    obtain ⟨E1, h1, h2, h3⟩ := T8.upd_spec (some v) (path i) E
    obtain ⟨E2, h4, h5⟩ := xInit_spec vs (i + 1) E1
    refine ⟨E2, fun R k => ?_, fun t => ?_⟩
    · simp only [xInit]
      rw [h1]; exact h4 R k
    · rw [h5]
      have g1 : XE.get E1 i = v := by unfold XE.get; rw [h2]
      have g2 : ∀ t, t ≠ i → XE.get E1 t = XE.get E t := fun t ht => by unfold XE.get; rw [h3 _ fun e => ht (path_inj e)]
      by_cases a : i ≤ t
      · by_cases b : t = i
        · subst b
          rw [if_neg (by omega), if_pos (Nat.le_refl _), g1]; simp
        · rw [if_pos (by omega), if_pos a, g2 t b]
          have : t - i = (t - (i + 1)) + 1 := by omega
          rw [this]; simp
      · rw [if_neg (by omega), if_neg a, g2 t (by omega)]
theorem xInit_same (args : List V) : ∃ E', (∀ (R : Type) (k : XE → R), xInit args 0 .nil k = k E') ∧ Same (initEnv 0 args) E' := by
  obtain ⟨E', h1, h2⟩ := xInit_spec args 0 .nil
  refine ⟨E', h1, fun t => ?_⟩
  rw [initEnv_get, h2]
  have : XE.get (.nil : XE) t = .und := by unfold XE.get; rw [T8.get_nil]
  simp [this]
theorem exBody_ok {X : Exs} (hx : CallOk P X.ex) (hxd : DCallOk P X.exd) (K0 : Ok P) {pu : FuncId → Bool} {f : FuncId} {d : FD} (hf : FdOk P f d) {args : List V} {H : HT} (how : H.Own) {K : AEnd → HT → Option R} {r : R} (h : exBody P X pu d args H K = some r) :
    ∃ ae H', HT.ext H H' ∧ K ae H' = some r ∧ (ACalls P f args H.ah fun ae' h' => ae' = ae ∧ h' = H'.ah) ∧ (d.df = false → ACallsD P f args H.ah fun ae' h' => ae' = ae ∧ h' = H'.ah) := by
  obtain ⟨fn, f1, f2, f3, f4, f5⟩ := hf
  unfold exBody at h
  rw [fNat_eq] at h
  obtain ⟨E0, h0, hs0⟩ := xInit_same args
  rw [h0] at h
  cases hd : d.df with
  | true =>
    simp only [hd] at h
    obtain ⟨x, ds, E1, H1, he, h, c⟩ := exD_ok hx d.code _ [] E0 H how h
    have fin : ∃ m, (x = .normal ∧ m = none ∨ x = .ret ∧ m = none ∨ ∃ v, x = .panic v ∧ m = some v) ∧ xLeaves P X.exd d.rs (xSlots E1 d.rs) K ds m H1 = some r := by
      cases x with
      | normal => exact ⟨none, .inl ⟨rfl, rfl⟩, h⟩
      | ret => exact ⟨none, .inr (.inl ⟨rfl, rfl⟩), h⟩
      | panic v => exact ⟨some v, .inr (.inr ⟨v, rfl, rfl⟩), h⟩
      | exit i => cases h
      | goto i => cases h
    obtain ⟨m, hm, h⟩ := fin
    obtain ⟨ae, H2, he2, h2, c2⟩ := xLeaves_ok hxd _ _ _ (he.own how) h
    refine ⟨ae, H2, he.trans he2, h2, ?_, fun h => by cases h⟩
    refine acalls_vcD K0 f1 f2 (autoK pu (args.length + (d.nt - args.length)) d.code) _ d.rs (by rw [f3]) f4 (c _ hs0 _ fun e' hs' => ?_)
    rcases hm with ⟨rfl, rfl⟩ | ⟨rfl, rfl⟩ | ⟨v, rfl, rfl⟩
    all_goals
      simp only [vcRetD, xSlots_eq hs']
      exact c2 _ ⟨rfl, rfl⟩
  | false =>
    simp only [hd] at h
    obtain ⟨x, E1, H1, he, h, c⟩ := exC_ok hx d.code _ E0 H how h
    have fin : ∃ ae, K ae H1 = some r ∧ ∀ (Q : AEnd → AH → Prop) e', Same e' E1 → Q ae H1.ah → vcRet P fn.results.toList Q x e' H1.ah := by
      have res : xEnd P d.rs (xSlots E1 d.rs) H1 K = some r → ∃ ae, K ae H1 = some r ∧ ∀ (Q : AEnd → AH → Prop) e', Same e' E1 → Q ae H1.ah → bindR (aRes P e' H1.ah fn.results.toList) fun v => Q (.ret v) H1.ah := by
        intro h
        obtain ⟨l, g1, g2⟩ := xEnd_ok h
        refine ⟨_, g2, fun Q e' hs' q => ?_⟩
        rw [f4, ← aResV_eq, xSlots_eq hs', g1]
        exact q
      cases x with
      | normal => exact res h
      | ret => exact res h
      | panic v => exact ⟨_, h, fun Q e' hs' q => q⟩
      | exit i => cases h
      | goto i => cases h
    obtain ⟨ae, h2, c2⟩ := fin
    have hv := c _ hs0 (vcRet P fn.results.toList fun ae' h' => ae' = ae ∧ h' = H1.ah) fun e' hs' => c2 _ e' hs' ⟨rfl, rfl⟩
    rw [← f3] at hv
    exact ⟨ae, H1, he, h2, acalls_of_vc K0 f1 f2 _ hv, fun _ => acallsD_of_vc K0 f1 f2 _ hv⟩
variable (P)
variable {P}
theorem HT0_ah : HT0.ah = AH0 := by
  unfold HT.ah HT0 AH0
  simp only [AH.mk.injEq, true_and]
  funext n
  exact T8.get_nil _
theorem HT0_own : HT0.Own := fun n o h => by
  have : T8.get (path n) (.nil : T8 AO) = some o := h
  rw [T8.get_nil] at this
  cases this
end
end Go.Ab
namespace Go.Ab
open Go Go.RowKit
noncomputable def T8.ofList : List (Nat × FD) → T8 FD
  | [] => .nil
  | (f, d) :: l => T8.upd (some d) (path f) (T8.ofList l) fun t => t
theorem ofList_mem : ∀ (l : List (Nat × FD)) (f : Nat) (d : FD), T8.get (path f) (T8.ofList l) = some d → (f, d) ∈ l
  | [], f, d, h => by simp only [T8.ofList, T8.get_nil] at h; cases h
  | (g, e) :: l, f, d, h => by
    obtain ⟨t, h1, h2, h3⟩ := T8.upd_spec (some e) (path g) (T8.ofList l)
    simp only [T8.ofList] at h
    rw [h1] at h
    by_cases hf : f = g
    · subst hf
      rw [h2] at h; cases h
      exact List.mem_cons_self
    · rw [h3 _ fun e => hf (path_inj e)] at h
      exact List.mem_cons_of_mem _ (ofList_mem l f d h)
def AllOk (P : Program) : List (Nat × FD) → Prop
  | [] => True
  | (f, d) :: l => FdOk P f d ∧ AllOk P l
theorem allOk_mem {P : Program} : ∀ {l : List (Nat × FD)}, AllOk P l → ∀ f d, (f, d) ∈ l → FdOk P f d
  | [], _, _, _, h => by cases h
  | (g, e) :: l, a, f, d, h => by
    rcases List.mem_cons.1 h with h | h
    · cases h; exact a.1
    · exact allOk_mem a.2 f d h
theorem tabOk_of {P : Program} {T : T8 FD} {l : List (Nat × FD)} (h : T = T8.ofList l) (a : AllOk P l) : TabOk P T := by
  subst h
  exact fun f d hd => allOk_mem a f d (ofList_mem l f d hd)
end Go.Ab
namespace Go.Ab
open Go Go.RowKit
def samePairs : List (V × V) → List (V × V) → Bool
  | [], [] => true
  | (a, b) :: l, (c, d) :: m => sameV a c && sameV b d && samePairs l m
  | _, _ => false
theorem samePairs_eq : ∀ (l m : List (V × V)), samePairs l m = true → l = m
  | [], [], _ => rfl
  | [], _ :: _, h => by cases h
  | _ :: _, [], h => by simp [samePairs] at h
  | (a, b) :: l, (c, d) :: m, h => by
    simp only [samePairs, Bool.and_eq_true] at h
    rw [sameV_eq _ _ h.1.1, sameV_eq _ _ h.1.2, samePairs_eq l m h.2]
def sameAO : AO → AO → Bool
  | .cells o t v, .cells o' t' v' => (o == o') && decide (t = t') && sameV v v'
  | .mp k e l, .mp k' e' l' => decide (k = k') && decide (e = e') && samePairs l l'
  | .sit s p, .sit s' p' => (s == s') && Nat.beq p p'
  | _, _ => false
theorem sameAO_eq {a b : AO} (h : sameAO a b = true) : a = b := by
  cases a <;> cases b <;> simp only [sameAO, Bool.and_eq_true, decide_eq_true_eq, beq_iff_eq, Bool.false_eq_true] at h
  · rw [h.1.1, h.1.2, sameV_eq _ _ h.2]
  · rw [h.1.1, h.1.2, samePairs_eq _ _ h.2]
  · rw [h.1, Nat.eq_of_beq_eq_true h.2]
def sameOO : Option AO → Option AO → Bool
  | none, none => true
  | some a, some b => sameAO a b
  | _, _ => false
theorem sameOO_eq {a b : Option AO} (h : sameOO a b = true) : a = b := by
  cases a <;> cases b <;> first | rfl | (cases h; done) | (rw [sameAO_eq h])
def sameT : T8 AO → T8 AO → Bool
  | .nil, .nil => true
  | .node o a b c d e f g h, .node o' a' b' c' d' e' f' g' h' => sameOO o o' && sameT a a' && sameT b b' && sameT c c' && sameT d d' && sameT e e' && sameT f f' && sameT g g' && sameT h h'
  | _, _ => false
theorem sameT_eq : ∀ (s t : T8 AO), sameT s t = true → s = t
  | .nil, .nil, _ => rfl
  | .nil, .node .., h => by cases h
  | .node .., .nil, h => by cases h
  | .node o a b c d e f g h, .node o' a' b' c' d' e' f' g' h', hh => by
    simp only [sameT, Bool.and_eq_true] at hh
    obtain ⟨⟨⟨⟨⟨⟨⟨⟨h0, h1⟩, h2⟩, h3⟩, h4⟩, h5⟩, h6⟩, h7⟩, h8⟩ := hh
    rw [sameOO_eq h0, sameT_eq a a' h1, sameT_eq b b' h2, sameT_eq c c' h3, sameT_eq d d' h4, sameT_eq e e' h5, sameT_eq f f' h6, sameT_eq g g' h7, sameT_eq h h' h8]
def ownT : T8 AO → Bool
  | .nil => true
  | .node o a b c d e f g h => (match o with | some x => x.isOwn | none => true) && ownT a && ownT b && ownT c && ownT d && ownT e && ownT f && ownT g && ownT h
theorem ownT_get : ∀ (t : T8 AO), ownT t = true → ∀ p o, T8.get p t = some o → o.isOwn = true
  | .nil, _, p, o, h => by rw [T8.get_nil] at h; cases h
  | .node w a b c d e f g h, ht, p, o, hg => by
    simp only [ownT, Bool.and_eq_true] at ht
    obtain ⟨⟨⟨⟨⟨⟨⟨⟨h0, h1⟩, h2⟩, h3⟩, h4⟩, h5⟩, h6⟩, h7⟩, h8⟩ := ht
    cases p with
    | nil =>
      rw [T8.get_z] at hg
      have hg : w = some o := hg
      subst hg
      exact h0
    | cons x p =>
      rw [T8.get_s] at hg
      cases x
      · exact ownT_get a h1 p o hg
      · exact ownT_get b h2 p o hg
      · exact ownT_get c h3 p o hg
      · exact ownT_get d h4 p o hg
      · exact ownT_get e h5 p o hg
      · exact ownT_get f h6 p o hg
      · exact ownT_get g h7 p o hg
      · exact ownT_get h h8 p o hg
theorem own_of {H : HT} (h : ownT H.tr = true) : H.Own := fun n o hg => ownT_get H.tr h _ o hg
noncomputable def pkV : Nat → Nat → List V
  | 0, _ => []
  | k + 1, n => fNat (n % 256) fun d => fNat (n / 256) fun n => .int .u8 (.ofNat d) :: pkV k n
noncomputable def pkS : Nat → Nat → List UInt8
  | 0, _ => []
  | k + 1, n => fNat (n % 256) fun d => fNat (n / 256) fun n => UInt8.ofNat d :: pkS k n
end Go.Ab
