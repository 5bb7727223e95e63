/- Runs with calls that are known: from one told memory to another one. -/
import Derived.Test.YtcglbpjpbjaecaaGreatT12
set_option linter.unusedVariables false
set_option linter.unusedSimpArgs false
namespace Go.Ab
open Go Go.RowKit
set_option linter.unusedVariables false
/-- A call that is known: from which memory, what it hands back, and the memory behind it (its 'lo': the least old name that was written). -/
structure Memo where
  f : FuncId
  args : List V
  H : HT
  v : V
  H' : HT
structure MemoOk (P : Program) (m : Memo) : Prop where
  ent : entersOk P m.f = true
  ext : HT.ext ⟨m.H.next, m.H.next, m.H.tr⟩ m.H'
  call : ACalls P m.f m.args m.H.ah fun e h => e = .ret m.v ∧ h = m.H'.ah
abbrev HmF := (R : Type) → FuncId → List V → HT → (V → HT → Option R) → Option R → Option R
def HmOk (P : Program) (hm : HmF) : Prop := ∀ (R : Type) (f : FuncId) (args : List V) (H : HT) (K : V → HT → Option R) (z : Option R) (r : R), H.Own → hm R f args H K z = some r →
  z = some r ∨ ∃ v H', HT.ext H H' ∧ K v H' = some r ∧ entersOk P f = true ∧ ACalls P f args H.ah fun e h => e = .ret v ∧ h = H'.ah
noncomputable def goMemo {R : Type} (v : V) (M H : HT) (K : V → HT → Option R) : Option R :=
  HT.rec (fun lo next tr => HT.rec (fun lo' next' tr' => fNat (bif Nat.ble lo lo' then lo else lo') fun lo => K v ⟨lo, next', tr'⟩) M) H
noncomputable def oneMemo (m : Memo) : HmF := fun R f args H K z =>
  bif Nat.beq m.f f && (Nat.beq H.next m.H.next && (sameVs args m.args && sameT H.tr m.H.tr)) then goMemo m.v m.H' H K else z
noncomputable def allMemo : List Memo → HmF
  | [] => fun R f args H K z => z
  | m :: l => fun R f args H K z => oneMemo m R f args H K (allMemo l R f args H K z)
theorem ext_memo {H H' : HT} {lo lo' next next' : Nat} {tr tr' : T8 AO} (e : HT.ext ⟨next, next, tr⟩ ⟨lo', next', tr'⟩) : HT.ext ⟨lo, next, tr⟩ ⟨bif Nat.ble lo lo' then lo else lo', next', tr'⟩ := by
  obtain ⟨a, b, c, d⟩ := e
  refine ⟨(lo_min lo lo').1, b, fun n h1 h2 => c n ?_ h2, d⟩
  have := (lo_min lo lo').2
  have h1 : n < (bif Nat.ble lo lo' then lo else lo') := h1
  show n < lo'
  omega
theorem goMemo_eq {R : Type} (v : V) (lo next : Nat) (tr : T8 AO) (lo' next' : Nat) (tr' : T8 AO) (K : V → HT → Option R) : goMemo v ⟨lo', next', tr'⟩ ⟨lo, next, tr⟩ K = K v ⟨bif Nat.ble lo lo' then lo else lo', next', tr'⟩ :=
  fNat_eq _ (fun lo => K v ⟨lo, next', tr'⟩)
theorem goMemo_ok {P : Program} {m : Memo} (hm : MemoOk P m) {R : Type} {H : HT} {K : V → HT → Option R} {r : R} (hn : H.next = m.H.next) (ht : H.tr = m.H.tr) (h : goMemo m.v m.H' H K = some r) :
    ∃ v H', HT.ext H H' ∧ K v H' = some r ∧ entersOk P m.f = true ∧ ACalls P m.f m.args H.ah fun e h => e = .ret v ∧ h = H'.ah := by
  obtain ⟨f, args, ⟨l0, n0, t0⟩, v, ⟨lo', next', tr'⟩⟩ := m
  obtain ⟨lo, next, tr⟩ := H
  obtain ⟨h1, h2, h3⟩ := hm
  have hn : next = n0 := hn
  have ht : tr = t0 := ht
  subst hn ht
  rw [goMemo_eq] at h
  exact ⟨v, _, ext_memo (H := ⟨lo, next, tr⟩) (H' := ⟨lo', next', tr'⟩) h2, h, h1, h3⟩
theorem oneMemo_ok {P : Program} {m : Memo} (hm : MemoOk P m) : HmOk P (oneMemo m) := by
  intro R f args H K z r how h
  unfold oneMemo at h
  cases hb : (Nat.beq m.f f && (Nat.beq H.next m.H.next && (sameVs args m.args && sameT H.tr m.H.tr))) with
  | false => rw [hb] at h; exact .inl h
  | true =>
    rw [hb] at h
    simp only [Bool.and_eq_true] at hb
    obtain ⟨h1, h2, h3, h4⟩ := hb
    have h1 := Nat.eq_of_beq_eq_true h1
    subst h1
    rw [sameVs_eq _ _ h3]
    exact .inr (goMemo_ok hm (Nat.eq_of_beq_eq_true h2) (sameT_eq _ _ h4) h)
/-- All that are listed are known. -/
def MemosOk (P : Program) : List Memo → Prop
  | [] => True
  | m :: l => MemoOk P m ∧ MemosOk P l
theorem allMemo_ok {P : Program} : ∀ {l : List Memo}, MemosOk P l → HmOk P (allMemo l)
  | [], _ => fun R f args H K z r how h => .inl h
  | m :: l, hl => fun R f args H K z r how h => by
    rcases oneMemo_ok hl.1 R f args H K _ r how h with h | h
    · exact allMemo_ok hl.2 R f args H K z r how h
    · exact .inr h
/-- Known calls over memories whose first variable may hold anything. -/
noncomputable def oneMemo0 (ty : BTy) (m : V → Memo) : HmF := fun R f args H K z =>
  bif Nat.beq (m .und).f f then (match T8.get [] H.tr with
    | some (.cells true ty' x) => bif decide (ty' = ty) && (Nat.beq H.next (m x).H.next && (sameVs args (m x).args && sameR H.tr (m x).H.tr)) then goMemo (m x).v (m x).H' H K else z
    | _ => z) else z
theorem oneMemo0_ok {P : Program} {ty : BTy} {m : V → Memo} (hm : ∀ x, MemoOk P (m x)) (hf : ∀ x, (m x).f = (m .und).f) (hr : ∀ x, T8.get [] (m x).H.tr = some (.cells true ty x)) : HmOk P (oneMemo0 ty m) := by
  intro R f args H K z r how h
  unfold oneMemo0 at h
  cases hb : Nat.beq (m .und).f f with
  | false => rw [hb] at h; exact .inl h
  | true =>
    have hb := Nat.eq_of_beq_eq_true hb
    rw [show Nat.beq (m .und).f f = true by rw [hb]; exact Nat.beq_refl f] at h
    simp only [cond_true] at h
    split at h
    · rename_i ty' x hx
      cases hc : (decide (ty' = ty) && (Nat.beq H.next (m x).H.next && (sameVs args (m x).args && sameR H.tr (m x).H.tr))) with
      | false => rw [hc] at h; exact .inl h
      | true =>
        rw [hc] at h
        simp only [Bool.and_eq_true, decide_eq_true_eq] at hc
        obtain ⟨h1, h2, h3, h4⟩ := hc
        subst h1
        rw [sameVs_eq _ _ h3, ← hb, ← hf x]
        exact .inr (goMemo_ok (hm x) (Nat.eq_of_beq_eq_true h2) (sameR_eq h4 (hx.trans (hr x).symm)) h)
    · exact .inl h
noncomputable def orMemo (a b : HmF) : HmF := fun R f args H K z => a R f args H K (b R f args H K z)
theorem orMemo_ok {P : Program} {a b : HmF} (ha : HmOk P a) (hb : HmOk P b) : HmOk P (orMemo a b) := fun R f args H K z r how h => by
  rcases ha R f args H K _ r how h with h | h
  · exact hb R f args H K z r how h
  · exact .inr h
noncomputable def noMemo : HmF := fun R f args H K z => z
theorem noMemo_ok {P : Program} : HmOk P noMemo := fun R f args H K z r how h => .inl h
section
variable (P : Program)
noncomputable def exTabM (T : T8 FD) (hd : HdF) (hm : HmF) (pu : FuncId → Bool) : Nat → Exs
  | 0 => ⟨fun _ _ _ _ _ => none, fun _ _ _ _ _ => none⟩
  | n + 1 => ⟨fun R f args H K => match hd f args with
      | some v => fV v fun v => K (.ret v) H
      | none => hm R f args H (fun v H => K (.ret v) H) (match T8.get (path f) T with
        | none => none
        | some d => match d.flat with
          | true => bif flatBs args then (match exBody P (exTabM T hd hm pu n) pu d args HT0 (fun ae _ => match ae with
                | .ret v => bif flatB v then some v else none
                | .panic _ => none) with
              | some v => K (.ret v) H
              | none => none) else none
          | false => exBody P (exTabM T hd hm pu n) pu d args H K),
    fun R f args H K => match T8.get (path f) T with
      | none => none
      | some d => bif !d.df then exBody P (exTabM T hd hm pu n) pu d args H K else none⟩
variable {P}
theorem exTabM_ok (K0 : Ok P) {T : T8 FD} {hd : HdF} {hm : HmF} {pu : FuncId → Bool} (hT : TabOk P T) (hh : HdOk P hd) (hhm : HmOk P hm) : ∀ n, CallOk P (exTabM P T hd hm pu n).ex ∧ DCallOk P (exTabM P T hd hm pu n).exd
  | 0 => ⟨fun R f args H K r _ h => (nomatch (show (none : Option R) = some r from h)), fun R f args H K r _ h => (nomatch (show (none : Option R) = some r from h))⟩
  | n + 1 => by
    obtain ⟨i1, i2⟩ := exTabM_ok K0 (pu := pu) hT hh hhm n
    refine ⟨fun R f args H K r how h => ?_, fun R f args H K r how h => ?_⟩
    · simp only [exTabM] at h
      split at h
      · rename_i v hv
        rw [fV_eq] at h
        obtain ⟨h1, h2⟩ := hh f args v hv
        exact ⟨_, H, HT.ext.refl _, h, h1, (h2 _).mono fun e h' q => by
          cases e with
          | ret u => obtain ⟨rfl, rfl⟩ := q; exact ⟨rfl, rfl⟩
          | panic _ => exact q.elim⟩
      · rcases hhm R f args H _ _ r how h with h | ⟨v, H', a, b, c, d⟩
        · split at h
          · cases h
          · rename_i d hd'
            have hf := hT f d hd'
            have hent := hf.choose_spec.2.2.2.2
            split at h
            · obtain ⟨ha, h⟩ := bif_some h
              split at h
              · rename_i v hv
                obtain ⟨ae, H1, _, g1, g2, _⟩ := exBody_ok i1 i2 K0 hf HT0_own hv
                cases ae with
                | panic _ => cases g1
                | ret u =>
                  obtain ⟨hv', g1⟩ := bif_some g1
                  cases g1
                  rw [HT0_ah] at g2
                  refine ⟨_, H, HT.ext.refl _, h, hent, (pure_lift ha hv' (g2.mono fun e _ q => q.1) H.ah).mono fun e h' q => ?_⟩
                  cases e with
                  | ret u => obtain ⟨rfl, rfl⟩ := q; exact ⟨rfl, rfl⟩
                  | panic _ => exact q.elim
              · cases h
            · obtain ⟨ae, H1, g0, g1, g2, _⟩ := exBody_ok i1 i2 K0 hf how h
              exact ⟨ae, H1, g0, g1, hent, g2⟩
        · exact ⟨.ret v, H', a, b, c, d⟩
    · simp only [exTabM] at h
      split at h
      · cases h
      · rename_i d hd'
        have hf := hT f d hd'
        have hent := hf.choose_spec.2.2.2.2
        obtain ⟨hdf, h⟩ := bif_some h
        obtain ⟨ae, H1, g0, g1, _, g3⟩ := exBody_ok i1 i2 K0 hf how h
        exact ⟨ae, H1, g0, g1, hent, g3 (by simpa using hdf)⟩
/-- What a run hands back, and its memory. -/
noncomputable def pairK : AEnd → HT → Option (V × HT) := fun ae H => match ae with
  | .ret u => some (u, H)
  | .panic _ => none
/-- A run from a told memory makes a known call. -/
theorem memo_of (K0 : Ok P) {T : T8 FD} {hd : HdF} {hm : HmF} {pu : FuncId → Bool} (hT : TabOk P T) (hh : HdOk P hd) (hhm : HmOk P hm) {n : Nat} {f : FuncId} {args : List V} {H H' : HT} {v : V} (how : H.Own)
    (h : (exTabM P T hd hm pu n).ex (V × HT) f args ⟨H.next, H.next, H.tr⟩ pairK = some (v, H')) : MemoOk P ⟨f, args, H, v, H'⟩ := by
  obtain ⟨ae, H1, he, h1, hent, c⟩ := (exTabM_ok K0 hT hh hhm n).1 _ _ _ ⟨H.next, H.next, H.tr⟩ _ _ how h
  cases ae with
  | panic _ => cases h1
  | ret u =>
    have h1 : some (u, H1) = some (v, H') := h1
    cases h1
    exact ⟨hent, he, c⟩
/-- The same, compared by a test. -/
noncomputable def atM (v : V) (H' : HT) : AEnd → HT → Option Unit := fun ae H => match ae with
  | .ret u => bif sameV u v && (Nat.beq H.lo H'.lo && (Nat.beq H.next H'.next && sameT H.tr H'.tr)) then some () else none
  | .panic _ => none
theorem memo_at (K0 : Ok P) {T : T8 FD} {hd : HdF} {hm : HmF} {pu : FuncId → Bool} (hT : TabOk P T) (hh : HdOk P hd) (hhm : HmOk P hm) {n : Nat} {f : FuncId} {args : List V} {H H' : HT} {v : V} (how : H.Own)
    (h : ((exTabM P T hd hm pu n).ex Unit f args ⟨H.next, H.next, H.tr⟩ (atM v H')).isSome = true) : MemoOk P ⟨f, args, H, v, H'⟩ := by
  obtain ⟨r, hr⟩ := Option.isSome_iff_exists.1 h
  obtain ⟨ae, H1, he, h1, hent, c⟩ := (exTabM_ok K0 hT hh hhm n).1 _ _ _ ⟨H.next, H.next, H.tr⟩ _ _ how hr
  cases ae with
  | panic _ => cases h1
  | ret u =>
    obtain ⟨h1, _⟩ := bif_some h1
    simp only [Bool.and_eq_true] at h1
    obtain ⟨g1, g2, g3, g4⟩ := h1
    have e1 := sameV_eq _ _ g1
    obtain ⟨l1, n1, t1⟩ := H1
    obtain ⟨l2, n2, t2⟩ := H'
    have k2 : l1 = l2 := Nat.eq_of_beq_eq_true g2
    have k3 : n1 = n2 := Nat.eq_of_beq_eq_true g3
    have k4 : t1 = t2 := sameT_eq _ _ g4
    cases e1; cases k2; cases k3; cases k4
    exact ⟨hent, he, c⟩
end
/-- A memory, by what is other in it than in another one. -/
noncomputable def updAll : List (Nat × Option AO) → T8 AO → T8 AO
  | [], t => t
  | (n, o) :: l, t => T8.upd o (path n) t fun t => updAll l t
/-- Own, by its parts. -/
def ownO : Option AO → Bool
  | some x => x.isOwn
  | none => true
theorem own_updAll : ∀ (l : List (Nat × Option AO)) (t : T8 AO), (∀ m x, T8.get (path m) t = some x → x.isOwn = true) → (l.all fun p => ownO p.2) = true → ∀ m x, T8.get (path m) (updAll l t) = some x → x.isOwn = true
  | [], t, h, _ => h
  | (n, o) :: l, t, h, ha => by
    simp only [List.all_cons, Bool.and_eq_true] at ha
    obtain ⟨t', h1, h2, h3⟩ := T8.upd_spec o (path n) t
    simp only [updAll]
    rw [h1]
    exact own_updAll l t' (own_upd h2 h3 (fun x hx => by subst hx; exact ha.1) h) ha.2
end Go.Ab
