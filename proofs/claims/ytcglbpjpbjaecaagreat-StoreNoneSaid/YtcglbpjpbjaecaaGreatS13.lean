import Derived.Test.YtcglbpjpbjaecaaGreatS12
set_option linter.unusedVariables false
set_option linter.unusedSimpArgs false
namespace Go.Ab
open Go Go.RowKit
structure Memo where
  f : FuncId
  args : List V
  H : HT
  v : V
  H' : HT
structure MemoOk (P : Program) (m : Memo) : Prop where
  ent : entersOk P m.f = true
  ext : HT.ext ⟨m.H.next, m.H.next, m.H.tr⟩ m.H'
  call : ACalls P m.f m.args m.H.ah fun e h => e = .ret m.v ∧ h = m.H'.ah
abbrev HmF := (R : Type) → FuncId → List V → HT → (V → HT → Option R) → Option R → Option R
def HmOk (P : Program) (hm : HmF) : Prop := ∀ (R : Type) (f : FuncId) (args : List V) (H : HT) (K : V → HT → Option R) (z : Option R) (r : R), H.Own → hm R f args H K z = some r →
  z = some r ∨ ∃ v H', HT.ext H H' ∧ K v H' = some r ∧ entersOk P f = true ∧ ACalls P f args H.ah fun e h => e = .ret v ∧ h = H'.ah
noncomputable def goMemo {R : Type} (v : V) (M H : HT) (K : V → HT → Option R) : Option R :=
  HT.rec (fun lo next tr => HT.rec (fun lo' next' tr' => fNat (bif Nat.ble lo lo' then lo else lo') fun lo => K v ⟨lo, next', tr'⟩) M) H
theorem ext_memo {H H' : HT} {lo lo' next next' : Nat} {tr tr' : T8 AO} (e : HT.ext ⟨next, next, tr⟩ ⟨lo', next', tr'⟩) : HT.ext ⟨lo, next, tr⟩ ⟨bif Nat.ble lo lo' then lo else lo', next', tr'⟩ := by
  obtain ⟨a, b, c, d⟩ := e
  refine ⟨(lo_min lo lo').1, b, fun n h1 h2 => c n ?_ h2, d⟩
  have := (lo_min lo lo').2
  have h1 : n < (bif Nat.ble lo lo' then lo else lo') := h1
  show n < lo'
  omega
theorem goMemo_eq {R : Type} (v : V) (lo next : Nat) (tr : T8 AO) (lo' next' : Nat) (tr' : T8 AO) (K : V → HT → Option R) : goMemo v ⟨lo', next', tr'⟩ ⟨lo, next, tr⟩ K = K v ⟨bif Nat.ble lo lo' then lo else lo', next', tr'⟩ :=
  fNat_eq _ (fun lo => K v ⟨lo, next', tr'⟩)
theorem goMemo_ok {P : Program} {m : Memo} (hm : MemoOk P m) {R : Type} {H : HT} {K : V → HT → Option R} {r : R} (hn : H.next = m.H.next) (ht : H.tr = m.H.tr) (h : goMemo m.v m.H' H K = some r) :
    ∃ v H', HT.ext H H' ∧ K v H' = some r ∧ entersOk P m.f = true ∧ ACalls P m.f m.args H.ah fun e h => e = .ret v ∧ h = H'.ah := by
  obtain ⟨f, args, ⟨l0, n0, t0⟩, v, ⟨lo', next', tr'⟩⟩ := m
  obtain ⟨lo, next, tr⟩ := H
  obtain ⟨h1, h2, h3⟩ := hm
  have hn : next = n0 := hn
  have ht : tr = t0 := ht
  subst hn ht
  rw [goMemo_eq] at h
  exact ⟨v, _, ext_memo (H := ⟨lo, next, tr⟩) (H' := ⟨lo', next', tr'⟩) h2, h, h1, h3⟩
def MemosOk (P : Program) : List Memo → Prop
  | [] => True
  | m :: l => MemoOk P m ∧ MemosOk P l
noncomputable def orMemo (a b : HmF) : HmF := fun R f args H K z => a R f args H K (b R f args H K z)
theorem orMemo_ok {P : Program} {a b : HmF} (ha : HmOk P a) (hb : HmOk P b) : HmOk P (orMemo a b) := fun R f args H K z r how h => by
  rcases ha R f args H K _ r how h with h | h
  · exact hb R f args H K z r how h
  · exact .inr h
noncomputable def noMemo : HmF := fun R f args H K z => z
theorem noMemo_ok {P : Program} : HmOk P noMemo := fun R f args H K z r how h => .inl h
section
variable (P : Program)
noncomputable def exTabM (T : T8 FD) (hd : HdF) (hm : HmF) (pu : FuncId → Bool) : Nat → Exs
  | 0 => ⟨fun _ _ _ _ _ => none, fun _ _ _ _ _ => none⟩
  | n + 1 => ⟨fun R f args H K => match hd f args with
      | some v => fV v fun v => K (.ret v) H
      | none => hm R f args H (fun v H => K (.ret v) H) (match T8.get (path f) T with
        | none => none
        | some d => match d.flat with
          | true => bif flatBs args then (match exBody P (exTabM T hd hm pu n) pu d args HT0 (fun ae _ => match ae with
                | .ret v => bif flatB v then some v else none
                | .panic _ => none) with
              | some v => K (.ret v) H
              | none => none) else none
          | false => exBody P (exTabM T hd hm pu n) pu d args H K),
    fun R f args H K => match T8.get (path f) T with
      | none => none
      | some d => bif !d.df then exBody P (exTabM T hd hm pu n) pu d args H K else none⟩
variable {P}
theorem exTabM_ok (K0 : Ok P) {T : T8 FD} {hd : HdF} {hm : HmF} {pu : FuncId → Bool} (hT : TabOk P T) (hh : HdOk P hd) (hhm : HmOk P hm) : ∀ n, CallOk P (exTabM P T hd hm pu n).ex ∧ DCallOk P (exTabM P T hd hm pu n).exd
  | 0 => ⟨fun R f args H K r _ h => (nomatch (show (none : Option R) = some r from h)), fun R f args H K r _ h => (nomatch (show (none : Option R) = some r from h))⟩
  | n + 1 => by
    obtain ⟨i1, i2⟩ := exTabM_ok K0 (pu := pu) hT hh hhm n
    refine ⟨fun R f args H K r how h => ?_, fun R f args H K r how h => ?_⟩
    · simp only [exTabM] at h
      split at h
      · rename_i v hv
        rw [fV_eq] at h
        obtain ⟨h1, h2⟩ := hh f args v hv
        exact ⟨_, H, HT.ext.refl _, h, h1, (h2 _).mono fun e h' q => by
          cases e with
          | ret u => obtain ⟨rfl, rfl⟩ := q; exact ⟨rfl, rfl⟩
          | panic _ => exact q.elim⟩
      · rcases hhm R f args H _ _ r how h with h | ⟨v, H', a, b, c, d⟩
        · split at h
          · cases h
          · rename_i d hd'
            have hf := hT f d hd'
            have hent := hf.choose_spec.2.2.2.2
            split at h
            · obtain ⟨ha, h⟩ := bif_some h
              split at h
              · rename_i v hv
                obtain ⟨ae, H1, _, g1, g2, _⟩ := exBody_ok i1 i2 K0 hf HT0_own hv
                cases ae with
                | panic _ => cases g1
                | ret u =>
                  obtain ⟨hv', g1⟩ := bif_some g1
                  cases g1
                  rw [HT0_ah] at g2
                  refine ⟨_, H, HT.ext.refl _, h, hent, (pure_lift ha hv' (g2.mono fun e _ q => q.1) H.ah).mono fun e h' q => ?_⟩
                  cases e with
                  | ret u => obtain ⟨rfl, rfl⟩ := q; exact ⟨rfl, rfl⟩
                  | panic _ => exact q.elim
              · cases h
            · obtain ⟨ae, H1, g0, g1, g2, _⟩ := exBody_ok i1 i2 K0 hf how h
              exact ⟨ae, H1, g0, g1, hent, g2⟩
        · exact ⟨.ret v, H', a, b, c, d⟩
    · simp only [exTabM] at h
      split at h
      · cases h
      · rename_i d hd'
        have hf := hT f d hd'
        have hent := hf.choose_spec.2.2.2.2
        obtain ⟨hdf, h⟩ := bif_some h
        obtain ⟨ae, H1, g0, g1, _, g3⟩ := exBody_ok i1 i2 K0 hf how h
        exact ⟨ae, H1, g0, g1, hent, g3 (by simpa using hdf)⟩
noncomputable def pairK : AEnd → HT → Option (V × HT) := fun ae H => match ae with
  | .ret u => some (u, H)
  | .panic _ => none
theorem memo_of (K0 : Ok P) {T : T8 FD} {hd : HdF} {hm : HmF} {pu : FuncId → Bool} (hT : TabOk P T) (hh : HdOk P hd) (hhm : HmOk P hm) {n : Nat} {f : FuncId} {args : List V} {H H' : HT} {v : V} (how : H.Own)
    (h : (exTabM P T hd hm pu n).ex (V × HT) f args ⟨H.next, H.next, H.tr⟩ pairK = some (v, H')) : MemoOk P ⟨f, args, H, v, H'⟩ := by
  obtain ⟨ae, H1, he, h1, hent, c⟩ := (exTabM_ok K0 hT hh hhm n).1 _ _ _ ⟨H.next, H.next, H.tr⟩ _ _ how h
  cases ae with
  | panic _ => cases h1
  | ret u =>
    have h1 : some (u, H1) = some (v, H') := h1
    cases h1
    exact ⟨hent, he, c⟩
end
noncomputable def updAll : List (Nat × Option AO) → T8 AO → T8 AO
  | [], t => t
  | (n, o) :: l, t => T8.upd o (path n) t fun t => updAll l t
end Go.Ab
