import Derived.Test.YtcglbpjpbjaecaaGreatS10
set_option linter.unusedVariables false
set_option linter.unusedSimpArgs false
namespace Go.Ab
open Go Go.RowKit
section
variable (P : Program) (N : Nat)
noncomputable def exPure {R : Type} (ex : CallF) (c : Option (FuncId × List V)) (H : HT) (K : V → Option R) : Option R :=
  match c with
  | some (k, l) => ex R k l ⟨H.next, H.next, H.tr⟩ fun ae H' => match ae with
    | .ret v => bif Nat.ble H.next H'.lo && oldV (fun n => (H.get n).isSome) v then K v else none
    | .panic _ => none
  | none => none
noncomputable def exQ {R : Type} (ex : CallF) (op : Op) (E : XE) (H : HT) (K : V → Option R) : Option R :=
  match op with
  | .call { callee := .value f, args := args, .. } => exPure ex (xFun E f args) H K
  | .call { callee := .invoke r name, args := args, .. } => exPure ex (xMeth P E r name args) H K
  | .panic _ => none
  | .move x => K (xopnd E x)
  | .assign x => K (xopnd E x)
  | .makeFunc fn a b => K (.fn fn (a.toList.map (xopnd E)) (b.toList.map (xopnd E)))
  | op => bif quietOp op then xop P (xopnd E) H op fun v _ => K v else none
variable {P N}
theorem exPure_ok {R : Type} {ex : CallF} (hx : CallOk P ex) {c : FuncId × List V} {H : HT} (how : H.Own) {K : V → Option R} {r : R} (h : exPure ex (some c) H K = some r) : ∃ v, K v = some r ∧ vcEnter P c.1 c.2 H.ah (pureE v H.ah) := by
  obtain ⟨k, l⟩ := c
  obtain ⟨ae, H', he, hk, h1, c⟩ := hx _ _ _ ⟨H.next, H.next, H.tr⟩ _ _ how h
  cases ae with
  | panic _ => cases hk
  | ret u =>
    obtain ⟨hb, hk⟩ := bif_some hk
    refine ⟨u, hk, ?_⟩
    unfold vcEnter
    rw [h1, bsel_true]
    rw [Bool.and_eq_true] at hb
    refine acalls_forget (h := H.ah) hb.2 (c.mono ?_)
    rintro e h' ⟨rfl, rfl⟩
    refine ⟨rfl, fun n hn => ?_⟩
    have hlo := Nat.le_of_ble_eq_true hb.1
    have hn : n < H.next := hn
    exact he.same n (by omega) hn
theorem exQ_ok {R : Type} {ex : CallF} (hx : CallOk P ex) {op : Op} {E : XE} {H : HT} (how : H.Own) {K : V → Option R} {r : R} (h : exQ P ex op E H K = some r) :
    ∃ v, K v = some r ∧ ∀ e, Same e E → ∀ Kv : V → Prop, Kv v → vcQ P op e H.ah Kv := by
  have fin : (bif quietOp op then xop P (xopnd E) H op fun v _ => K v else none) = some r → ∃ v, K v = some r ∧ ∀ e, Same e E → ∀ Kv : V → Prop, Kv v → bsel (quietOp op) (bindO (fstV (aop P (opnd e) H.ah op)) Kv) False := by
    intro h
    obtain ⟨hq, h⟩ := bif_some h
    obtain ⟨v, H', h1, h2, h3⟩ := xop_some P h
    refine ⟨v, h3, fun e hs Kv q => ?_⟩
    rw [xopnd_eq hs] at h1
    rw [hq, h1]
    exact q
  cases op <;> first | exact fin h | skip
  case move x => exact ⟨_, h, fun e hs Kv q => by rw [xopnd_eq hs] at q; exact q⟩
  case assign x => exact ⟨_, h, fun e hs Kv q => by rw [xopnd_eq hs] at q; exact q⟩
  case makeFunc fn a b => exact ⟨_, h, fun e hs Kv q => by rw [xopnd_eq hs] at q; exact q⟩
  case call c =>
    obtain ⟨callee, args, ts⟩ := c
    cases callee with
    | builtin b => exact fin h
    | value f =>
      have h : exPure ex (xFun E f args) H K = some r := h
      cases hc : xFun E f args with
      | none => rw [hc] at h; cases h
      | some c =>
        rw [hc] at h
        obtain ⟨v, h1, h2⟩ := exPure_ok hx how h
        exact ⟨v, h1, fun e hs Kv q => ⟨v, xFun_ok hs hc h2, q⟩⟩
    | invoke rr name =>
      have h : exPure ex (xMeth P E rr name args) H K = some r := h
      cases hc : xMeth P E rr name args with
      | none => rw [hc] at h; cases h
      | some c =>
        rw [hc] at h
        obtain ⟨v, h1, h2⟩ := exPure_ok hx how h
        exact ⟨v, h1, fun e hs Kv q => ⟨v, xMeth_ok hs hc h2, q⟩⟩
variable (P N)
noncomputable def exRunD {R : Type} (ex : CallF) (ops : Array Oper) (H : HT) : Nat → List Oper → Pend → (XE → Option R) → XE → Option R
  | _, [], none, k, E => k E
  | _, [], some _, _, _ => none
  | j, o :: rest, some (t, n, ps), k, E => match o.op with
    | .convert s d _ => match litConv P t n ps s d with
      | some v => fV v fun v => XE.put N o.dst v E fun E => exRunD ex ops H (j + 1) rest none k E
      | none => none
    | _ => none
  | j, o :: rest, none, k, E => match litAt N ops j with
    | some _ => match o.op with
      | .buildSlice t n ps => XE.put N o.dst .und E fun E' => exRunD ex ops H (j + 1) rest (some (t, n, ps.toList.map fun p => (p.1, xopnd E p.2))) k E'
      | _ => none
    | none => exQ P ex o.op E H fun v => XE.put N o.dst v E fun E => exRunD ex ops H (j + 1) rest none k E
noncomputable def exSegsD {R : Type} (ex : CallF) (ops : Array Oper) (H : HT) : Nat → List (Option (Nat × Bool) × List Oper) → (AExit → XE → HT → Option R) → XE → Option R
  | _, [], Q, E => Q .normal E H
  | j, (none, l) :: rest, Q, E => exRunD P N ex ops H j l none (fun E => exSegsD ex ops H (j + l.length) rest Q E) E
  | j, (some (i, w), l) :: rest, Q, E =>
    match (ops[i]?).bind (·.dst) with
    | some d => bif l.all (fun o => o.dst != some d) then (match XE.get E d with
      | .bool b => bif b == w then exRunD P N ex ops H j l none (fun E => exSegsD ex ops H (j + l.length) rest Q E) E else xSkip N l E fun E => exSegsD ex ops H (j + l.length) rest Q E
      | .tup [] => xSkip N l E fun E => exSegsD ex ops H (j + l.length) rest Q E
      | _ => none) else none
    | none => none
variable {P N}
theorem exRunD_ok {R : Type} {ex : CallF} (hx : CallOk P ex) {ops : Array Oper} {H : HT} (how : H.Own) {k : XE → Option R} {r : R} :
    ∀ (l : List Oper) (j : Nat) (pend : Pend) (E : XE), exRunD P N ex ops H j l pend k E = some r →
    ∃ E', k E' = some r ∧ ∀ e, Same e E → ∀ kv : Env → Prop, (∀ e', Same e' E' → kv e') → vcRunD P N ops H.ah j l pend kv e
  | [], j, none, E, h => ⟨E, h, fun e hs kv q => q e hs⟩
  | [], j, some _, E, h => by cases h
  | o :: l, j, some (t, n, ps), E, h => by
    simp only [exRunD] at h
    split at h
    · rename_i s d x hop
      split at h
      · rename_i v hv
        rw [fV_eq] at h
        obtain ⟨E', g1, g2⟩ := XE.put_spec N o.dst v E
        rw [g1] at h
        obtain ⟨E2, h2, c2⟩ := exRunD_ok hx how l (j + 1) none E' h
        refine ⟨E2, h2, fun e hs kv q => ?_⟩
        simp only [vcRunD, hop, hv]
        exact c2 _ (g2 e hs) kv q
      · cases h
    · cases h
  | o :: l, j, none, E, h => by
    simp only [exRunD] at h
    split at h
    · rename_i x hlit
      split at h
      · rename_i t n ps hop
        obtain ⟨E', g1, g2⟩ := XE.put_spec N o.dst .und E
        rw [g1] at h
        obtain ⟨E2, h2, c2⟩ := exRunD_ok hx how l (j + 1) _ E' h
        refine ⟨E2, h2, fun e hs kv q => ?_⟩
        simp only [vcRunD, hlit, hop]
        have := c2 _ (g2 e hs) kv q
        rw [xopnd_eq hs] at this
        exact this
      · cases h
    · rename_i hlit
      obtain ⟨v, h, c⟩ := exQ_ok hx how h
      obtain ⟨E', g1, g2⟩ := XE.put_spec N o.dst v E
      rw [g1] at h
      obtain ⟨E2, h2, c2⟩ := exRunD_ok hx how l (j + 1) none E' h
      refine ⟨E2, h2, fun e hs kv q => ?_⟩
      simp only [vcRunD, hlit]
      exact c e hs _ (c2 _ (g2 e hs) kv q)
theorem exSegsD_ok {R : Type} {ex : CallF} (hx : CallOk P ex) {ops : Array Oper} {H : HT} (how : H.Own) {Q : AExit → XE → HT → Option R} {r : R} :
    ∀ (l : List (Option (Nat × Bool) × List Oper)) (j : Nat) (E : XE), exSegsD P N ex ops H j l Q E = some r →
    ∃ E', Q .normal E' H = some r ∧ ∀ e, Same e E → ∀ (Qv : AExit → Env → AH → Prop), (∀ e', Same e' E' → Qv .normal e' H.ah) → vcSegsD P N ops H.ah j l [] Qv e
  | [], j, E, h => ⟨E, h, fun e hs Qv q => q e hs⟩
  | (none, l) :: rest, j, E, h => by
    simp only [exSegsD] at h
    obtain ⟨E1, h, c⟩ := exRunD_ok hx how l j none E h
    obtain ⟨E2, h2, c2⟩ := exSegsD_ok hx how rest _ E1 h
    exact ⟨E2, h2, fun e hs Qv q => by simp only [vcSegsD]; exact c e hs _ fun e' hs' => c2 e' hs' Qv q⟩
  | (some (i, w), l) :: rest, j, E, h => by
    simp only [exSegsD] at h
    split at h
    · rename_i d hd
      obtain ⟨ha, h⟩ := bif_some h
      have run : exRunD P N ex ops H j l none (fun E => exSegsD P N ex ops H (j + l.length) rest Q E) E = some r → ∃ E', Q .normal E' H = some r ∧ ∀ e, Same e E → ∀ (Qv : AExit → Env → AH → Prop), (∀ e', Same e' E' → Qv .normal e' H.ah) →
          vcRunD P N ops H.ah j l none (fun e => vcSegsD P N ops H.ah (j + l.length) rest [] Qv e) e := by
        intro h
        obtain ⟨E1, h, c⟩ := exRunD_ok hx how l j none E h
        obtain ⟨E2, h2, c2⟩ := exSegsD_ok hx how rest _ E1 h
        exact ⟨E2, h2, fun e hs Qv q => c e hs _ fun e' hs' => c2 e' hs' Qv q⟩
      have skip : xSkip N l E (fun E => exSegsD P N ex ops H (j + l.length) rest Q E) = some r → ∃ E', Q .normal E' H = some r ∧ ∀ e, Same e E → ∀ (Qv : AExit → Env → AH → Prop), (∀ e', Same e' E' → Qv .normal e' H.ah) →
          vcSegsD P N ops H.ah (j + l.length) rest [] Qv (skipAll N l e) := by
        intro h
        obtain ⟨E', g1, g2⟩ := xSkip_spec (N := N) l E (fun E => exSegsD P N ex ops H (j + l.length) rest Q E)
        rw [g1] at h
        obtain ⟨E2, h2, c2⟩ := exSegsD_ok hx how rest _ E' h
        exact ⟨E2, h2, fun e hs Qv q => c2 _ (g2 e hs) Qv q⟩
      split at h
      · rename_i b hb
        cases hbw : b == w with
        | true =>
          rw [hbw] at h
          obtain ⟨E2, h2, c2⟩ := run h
          refine ⟨E2, h2, fun e hs Qv q => ?_⟩
          simp only [vcSegsD]
          rw [hd]
          simp only
          rw [ha, hs d, hb]
          simp only [vcG]
          rw [if_pos (by simpa using hbw)]
          exact c2 e hs Qv q
        | false =>
          rw [hbw] at h
          obtain ⟨E2, h2, c2⟩ := skip h
          refine ⟨E2, h2, fun e hs Qv q => ?_⟩
          simp only [vcSegsD]
          rw [hd]
          simp only
          rw [ha, hs d, hb]
          simp only [vcG]
          rw [if_neg (by simpa using hbw)]
          exact c2 e hs Qv q
      · rename_i hb
        obtain ⟨E2, h2, c2⟩ := skip h
        refine ⟨E2, h2, fun e hs Qv q => ?_⟩
        simp only [vcSegsD]
        rw [hd]
        simp only
        rw [ha, hs d, hb]
        exact c2 e hs Qv q
      · cases h
    · cases h
variable (P N)
noncomputable def exEff {R : Type} (ex : CallF) (c : Option (FuncId × List V)) (H : HT) (K : V → HT → Option R) : Option R :=
  match c with
  | some (k, l) => ex R k l H fun ae H' => match ae with
    | .ret v => K v H'
    | .panic _ => none
  | none => none
noncomputable def exE {R : Type} (ex : CallF) (op : Op) (E : XE) (H : HT) (K : V → HT → Option R) : Option R :=
  match op with
  | .call { callee := .value f, args := args, .. } => exEff ex (xFun E f args) H K
  | .call { callee := .invoke r name, args := args, .. } => exEff ex (xMeth P E r name args) H K
  | .panic _ => none
  | op => xop P (xopnd E) H op K
variable {P N}
theorem exEff_ok {R : Type} {ex : CallF} (hx : CallOk P ex) {c : FuncId × List V} {H : HT} (how : H.Own) {K : V → HT → Option R} {r : R} (h : exEff ex (some c) H K = some r) : ∃ v H', HT.ext H H' ∧ K v H' = some r ∧ vcEnter P c.1 c.2 H.ah (pureE v H'.ah) := by
  obtain ⟨k, l⟩ := c
  obtain ⟨ae, H', he, hk, h1, c⟩ := hx _ _ _ _ _ _ how h
  cases ae with
  | panic _ => cases hk
  | ret u =>
    refine ⟨u, H', he, hk, ?_⟩
    unfold vcEnter
    rw [h1, bsel_true]
    refine c.mono ?_
    rintro e h' ⟨rfl, rfl⟩
    exact ⟨rfl, rfl⟩
theorem exE_ok {R : Type} {ex : CallF} (hx : CallOk P ex) {op : Op} {E : XE} {H : HT} (how : H.Own) {K : V → HT → Option R} {r : R} (h : exE P ex op E H K = some r) :
    ∃ v H', HT.ext H H' ∧ K v H' = some r ∧ ∀ e, Same e E → ∀ Kv : V → AH → Prop, Kv v H'.ah → vcE P op e H.ah Kv := by
  have fin : xop P (xopnd E) H op K = some r → ∃ v H', HT.ext H H' ∧ K v H' = some r ∧ ∀ e, Same e E → ∀ (Kv : V → AH → Prop), Kv v H'.ah → bindV (aop P (opnd e) H.ah op) Kv := by
    intro h
    obtain ⟨v, H', h1, h2, h3⟩ := xop_some P h
    refine ⟨v, H', h2, h3, fun e hs Kv q => ?_⟩
    rw [xopnd_eq hs] at h1
    rw [h1]
    exact q
  cases op <;> first | exact fin h | skip
  case call c =>
    obtain ⟨callee, args, ts⟩ := c
    cases callee with
    | builtin b => exact fin h
    | value f =>
      have h : exEff ex (xFun E f args) H K = some r := h
      cases hc : xFun E f args with
      | none => rw [hc] at h; cases h
      | some c =>
        rw [hc] at h
        obtain ⟨v, H', h0, h1, h2⟩ := exEff_ok hx how h
        exact ⟨v, H', h0, h1, fun e hs Kv q => ⟨v, H'.ah, xFun_ok hs hc h2, q⟩⟩
    | invoke rr name =>
      have h : exEff ex (xMeth P E rr name args) H K = some r := h
      cases hc : xMeth P E rr name args with
      | none => rw [hc] at h; cases h
      | some c =>
        rw [hc] at h
        obtain ⟨v, H', h0, h1, h2⟩ := exEff_ok hx how h
        exact ⟨v, H', h0, h1, fun e hs Kv q => ⟨v, H'.ah, xMeth_ok hs hc h2, q⟩⟩
variable (P N)
noncomputable def exAlso (ex : CallF) (op : Op) (E : XE) (v : V) (H : HT) : Bool :=
  match exQ P ex op E H fun u => bif sameV u v then some () else none with
  | some _ => true
  | none => false
variable {P N}
theorem exAlso_ok {ex : CallF} (hx : CallOk P ex) {op : Op} {E : XE} {v : V} {H : HT} (how : H.Own) (h : exAlso P ex op E v H = true) : ∀ e, Same e E → yields P op e H.ah H.ah v := by
  intro e hs
  unfold exAlso at h
  split at h
  · rename_i u hu
    obtain ⟨v', h1, h2⟩ := exQ_ok hx how hu
    obtain ⟨h3, _⟩ := bif_some h1
    have := sameV_eq _ _ h3
    subst this
    obtain ⟨v2, h4, h5⟩ := yields_of_vcQ (h2 e hs (fun u => u = v') rfl)
    rw [h5] at h4; exact h4
  · cases h
variable (P N)
noncomputable def ex2 {R : Type} (ex : CallF) (b : List (List Nat)) (es : List Nat) : Nat → List Oper → List HT → HT → List (Nat × (HT → Bool)) → (XE → HT → Option R) → XE → Option R
  | _, [], _, H, _, k, E => k E H
  | j, o :: rest, gs, H, pend, k, E =>
    bif es.contains j then exE P ex o.op E H fun v H' =>
        bif (pend.filter fun p => decide (gs.length ≤ p.1)).all (fun p => p.2 H') then XE.put N o.dst v E fun E => ex2 ex b es (j + 1) rest (gs ++ [H']) H' pend k E else none
    else bif memless o.op then exQ P ex o.op E H fun v => XE.put N o.dst v E fun E => ex2 ex b es (j + 1) rest gs H pend k E
    else exQ P ex o.op E H fun v => bif (gs.dropLast.drop (loOf b es j)).all (exAlso P ex o.op E v) then
        XE.put N o.dst v E fun E' => ex2 ex b es (j + 1) rest gs H ((hiOf b es j, exAlso P ex o.op E v) :: pend) k E' else none
variable {P N}
inductive PendX : List (Nat × (HT → Bool)) → List (Nat × (AH → Prop)) → Prop where
  | nil : PendX [] []
  | cons {n : Nat} {f : HT → Bool} {g : AH → Prop} {l m} : (∀ H : HT, H.Own → f H = true → g H.ah) → PendX l m → PendX ((n, f) :: l) ((n, g) :: m)
theorem PendX.later {n : Nat} {H : HT} (how : H.Own) : ∀ {l : List (Nat × (HT → Bool))} {m : List (Nat × (AH → Prop))}, PendX l m → (l.filter fun p => decide (n ≤ p.1)).all (fun p => p.2 H) = true → ∀ q ∈ later n H.ah m, q
  | _, _, .nil, _, q, hq => by cases hq
  | _, _, .cons (n := n0) (f := f) (g := g) (l := l) (m := m) h1 h2, ha, q, hq => by
    unfold Go.Ab.later at hq
    by_cases hn : n ≤ n0
    · rw [List.filter_cons_of_pos (by simpa using hn)] at ha hq
      simp only [List.all_cons, Bool.and_eq_true] at ha
      simp only [List.map_cons, List.mem_cons] at hq
      rcases hq with rfl | hq
      · exact h1 _ how ha.1
      · exact PendX.later how h2 ha.2 q hq
    · rw [List.filter_cons_of_neg (by simpa using hn)] at ha hq
      exact PendX.later how h2 ha q hq
theorem andL_of : ∀ {l : List Prop} {p : Prop}, (∀ q ∈ l, q) → p → andL l p
  | [], _, _, h => h
  | q :: l, p, h1, h => ⟨h1 q (by simp), andL_of (fun q' hq => h1 q' (by simp [hq])) h⟩
theorem ex2_ok {R : Type} {ex : CallF} (hx : CallOk P ex) {b : List (List Nat)} {es : List Nat} {k : XE → HT → Option R} {r : R} :
    ∀ (l : List Oper) (j : Nat) (gs : List HT) (H : HT) (pend : List (Nat × (HT → Bool))) (pendv : List (Nat × (AH → Prop))) (E : XE), PendX pend pendv → H.Own → (∀ g ∈ gs, g.Own) → ex2 P N ex b es j l gs H pend k E = some r →
    ∃ E' H', HT.ext H H' ∧ k E' H' = some r ∧ ∀ e, Same e E → ∀ kv : Env → AH → Prop, (∀ e', Same e' E' → kv e' H'.ah) → PendX pend pendv → vc2 P N b es j l (gs.map HT.ah) H.ah pendv kv e
  | [], j, gs, H, pend, pendv, E, hp, _, _, h => ⟨E, H, HT.ext.refl _, h, fun e hs kv q _ => q e hs⟩
  | o :: l, j, gs, H, pend, pendv, E, hp, how, hgs, h => by
    simp only [ex2] at h
    cases hc : es.contains j with
    | true =>
      rw [hc] at h
      simp only [cond_true] at h
      obtain ⟨v, H', he, h, c⟩ := exE_ok hx how h
      obtain ⟨ha, h⟩ := bif_some h
      obtain ⟨E', g1, g2⟩ := XE.put_spec N o.dst v E
      rw [g1] at h
      obtain ⟨E2, H2, he2, h2, c2⟩ := ex2_ok hx l (j + 1) (gs ++ [H']) H' pend pendv E' hp (he.own how) (fun g hg => (List.mem_append.1 hg).elim (hgs g) (fun hg => by rw [List.mem_singleton.1 hg]; exact he.own how)) h
      refine ⟨E2, H2, he.trans he2, h2, fun e hs kv q _ => ?_⟩
      simp only [vc2]
      rw [hc]
      refine c e hs _ (andL_of ?_ ?_)
      · rw [List.length_map]; exact hp.later (he.own how) ha
      · have := c2 _ (g2 e hs) kv q hp
        rw [List.map_append, List.map_singleton] at this
        exact this
    | false =>
      rw [hc] at h
      simp only [cond_false] at h
      cases hm : memless o.op with
      | true =>
        rw [hm] at h
        simp only [cond_true] at h
        obtain ⟨v, h, c⟩ := exQ_ok hx how h
        obtain ⟨E', g1, g2⟩ := XE.put_spec N o.dst v E
        rw [g1] at h
        obtain ⟨E2, H2, he2, h2, c2⟩ := ex2_ok hx l (j + 1) gs H pend pendv E' hp how hgs h
        refine ⟨E2, H2, he2, h2, fun e hs kv q _ => ?_⟩
        simp only [vc2]
        rw [hc, hm]
        exact c e hs _ (c2 _ (g2 e hs) kv q hp)
      | false =>
        rw [hm] at h
        simp only [cond_false] at h
        obtain ⟨v, h, c⟩ := exQ_ok hx how h
        obtain ⟨ha, h⟩ := bif_some h
        obtain ⟨E', g1, g2⟩ := XE.put_spec N o.dst v E
        rw [g1] at h
        -- what was asked is told for any slots that are the same
        by_cases hE : ∃ e, Same e E
        · obtain ⟨e0, hs0⟩ := hE
          obtain ⟨E2, H2, he2, h2, c2⟩ := ex2_ok hx l (j + 1) gs H _ ((hiOf b es j, fun g => yields P o.op e0 g g v) :: pendv) E' (.cons (fun H hO hH => exAlso_ok hx hO hH e0 hs0) hp) how hgs h
          refine ⟨E2, H2, he2, h2, fun e hs kv q _ => ?_⟩
          simp only [vc2]
          rw [hc, hm]
          refine c e hs _ (andL_of ?_ ?_)
          · intro p hpm
            unfold stages at hpm
            rw [← List.map_dropLast, ← List.map_drop, List.map_map] at hpm
            obtain ⟨G, hG, rfl⟩ := List.mem_map.1 hpm
            exact exAlso_ok hx (hgs G ((List.dropLast_sublist _).subset ((List.drop_sublist _ _).subset hG))) (List.all_eq_true.1 ha G hG) e hs
          · obtain ⟨E3, H3, he3, h3, c3⟩ := ex2_ok hx l (j + 1) gs H _ ((hiOf b es j, fun g => yields P o.op e g g v) :: pendv) E' (.cons (fun H hO hH => exAlso_ok hx hO hH e hs) hp) how hgs h
            have e1 : ∀ x, opnd e x = opnd e0 x := fun x => by rw [← xopnd_eq hs, ← xopnd_eq hs0]
            have ef : (fun g => yields P o.op e g g v) = fun g => yields P o.op e0 g g v := by
              funext g
              exact propext ⟨yields_congr fun x _ => e1 x, yields_congr fun x _ => (e1 x).symm⟩
            rw [ef]
            exact c2 _ (g2 e hs) kv q (.cons (fun H hO hH => exAlso_ok hx hO hH e0 hs0) hp)
        · obtain ⟨E2, H2, he2, h2, c2⟩ := ex2_ok hx l (j + 1) gs H _ ((hiOf b es j, fun g => True) :: pendv) E' (.cons (fun H _ hH => trivial) hp) how hgs h
          exact ⟨E2, H2, he2, h2, fun e hs => absurd ⟨e, hs⟩ hE⟩
variable (P N)
noncomputable def xClr {R : Type} (ops : Array Oper) : List Nat → XE → (XE → R) → R
  | [], E, k => k E
  | i :: fl, E, k => XE.put N ((ops[i]?).bind (·.dst)) .und E fun E => xClr ops fl E k
noncomputable def ex3 {R : Type} (ex : CallF) (vops : Array Oper) (b : List (List Nat)) (es fl : List Nat) : Nat → List Oper → List HT → HT → List (Nat × (HT → Bool)) → (XE → HT → Option R) → XE → Option R
  | _, [], _, H, _, k, E => k E H
  | j, o :: rest, gs, H, pend, k, E =>
    bif fl.contains j then (match floOp P (xopnd E) o.op with
      | some (ob, mk) => H.make ob fun n H' =>
          bif (pend.filter fun p => decide (gs.length ≤ p.1)).all (fun p => p.2 H') then XE.put N o.dst (mk n) E fun E => ex3 ex vops b es fl (j + 1) rest (gs ++ [H']) H' pend k E else none
      | none => none)
    else bif es.contains j then exE P ex o.op E H fun v H' =>
        bif (pend.filter fun p => decide (gs.length ≤ p.1)).all (fun p => p.2 H') then XE.put N o.dst v E fun E => ex3 ex vops b es fl (j + 1) rest (gs ++ [H']) H' pend k E else none
    else bif memless o.op then exQ P ex o.op E H fun v => XE.put N o.dst v E fun E => ex3 ex vops b es fl (j + 1) rest gs H pend k E
    else exQ P ex o.op E H fun v => bif (gs.dropLast.drop (loOf b es j)).all (exAlso P ex o.op E v) then
        XE.put N o.dst v E fun E' => ex3 ex vops b es fl (j + 1) rest gs H ((hiOf b es j, exAlso P ex o.op E v) :: pend) k E' else none
variable {P N}
theorem xClr_spec {R : Type} {ops : Array Oper} : ∀ (fl : List Nat) (E : XE) (k : XE → R), ∃ E', xClr N ops fl E k = k E' ∧ ∀ e, Same e E → Same (clr N ops fl e) E'
  | [], E, k => ⟨E, rfl, fun _ h => h⟩
  | i :: fl, E, k => by
    obtain ⟨E1, g1, g2⟩ := XE.put_spec N ((ops[i]?).bind (·.dst)) .und E
    obtain ⟨E2, g3, g4⟩ := xClr_spec (R := R) fl E1 k
    refine ⟨E2, ?_, fun e h => g4 _ (g2 e h)⟩
    simp only [xClr]
    rw [g1]; exact g3
theorem ex3_ok {R : Type} {ex : CallF} (hx : CallOk P ex) {vops : Array Oper} {b : List (List Nat)} {es fl : List Nat} {k : XE → HT → Option R} {r : R} :
    ∀ (l : List Oper) (j : Nat) (gs : List HT) (H : HT) (pend : List (Nat × (HT → Bool))) (pendv : List (Nat × (AH → Prop))) (E : XE), PendX pend pendv → H.Own → (∀ g ∈ gs, g.Own) → ex3 P N ex vops b es fl j l gs H pend k E = some r →
    ∃ E' H', HT.ext H H' ∧ k E' H' = some r ∧ ∀ e, Same e E → ∀ kv : Env → AH → Prop, (∀ e', Same e' E' → kv e' H'.ah) → PendX pend pendv → vc3 P N vops b es fl j l (gs.map HT.ah) H.ah pendv kv e
  | [], j, gs, H, pend, pendv, E, hp, _, _, h => ⟨E, H, HT.ext.refl _, h, fun e hs kv q _ => q e hs⟩
  | o :: l, j, gs, H, pend, pendv, E, hp, how, hgs, h => by
    simp only [ex3] at h
    cases hcf : fl.contains j with
    | true =>
      rw [hcf] at h
      simp only [cond_true] at h
      split at h
      · rename_i ob mk hfo
        obtain ⟨hown, hold⟩ : ob.isOwn = true ∧ True := ⟨(floOp_spec hfo).2.1, trivial⟩
        obtain ⟨H', m1, m2, m3⟩ := H.make_spec ob hown
        rw [m1] at h
        obtain ⟨ha, h⟩ := bif_some h
        obtain ⟨E', g1, g2⟩ := XE.put_spec N o.dst (mk H.next) E
        rw [g1] at h
        obtain ⟨E2, H2, he2, h2, c2⟩ := ex3_ok hx l (j + 1) (gs ++ [H']) H' pend pendv E' hp (m3.own how) (fun g hg => (List.mem_append.1 hg).elim (hgs g) (fun hg => by rw [List.mem_singleton.1 hg]; exact m3.own how)) h
        refine ⟨E2, H2, m3.trans he2, h2, fun e hs kv q _ => ?_⟩
        simp only [vc3]
        rw [xopnd_eq hs] at hfo
        rw [hcf]
        simp only [hfo]
        refine ⟨how, andL_of ?_ ?_⟩
        · rw [List.length_map, ← m2]; exact hp.later (m3.own how) ha
        · have := c2 _ (g2 e hs) kv q hp
          rw [List.map_append, List.map_singleton, m2] at this
          exact this
      · cases h
    | false =>
      rw [hcf] at h
      simp only [cond_false] at h
      cases hc : es.contains j with
      | true =>
        rw [hc] at h
        simp only [cond_true] at h
        obtain ⟨v, H', he, h, c⟩ := exE_ok hx how h
        obtain ⟨ha, h⟩ := bif_some h
        obtain ⟨E', g1, g2⟩ := XE.put_spec N o.dst v E
        rw [g1] at h
        obtain ⟨E2, H2, he2, h2, c2⟩ := ex3_ok hx l (j + 1) (gs ++ [H']) H' pend pendv E' hp (he.own how) (fun g hg => (List.mem_append.1 hg).elim (hgs g) (fun hg => by rw [List.mem_singleton.1 hg]; exact he.own how)) h
        refine ⟨E2, H2, he.trans he2, h2, fun e hs kv q _ => ?_⟩
        simp only [vc3]
        rw [hcf, hc]
        refine c e hs _ (andL_of ?_ ?_)
        · rw [List.length_map]; exact hp.later (he.own how) ha
        · have := c2 _ (g2 e hs) kv q hp
          rw [List.map_append, List.map_singleton] at this
          exact this
      | false =>
        rw [hc] at h
        simp only [cond_false] at h
        cases hm : memless o.op with
        | true =>
          rw [hm] at h
          simp only [cond_true] at h
          obtain ⟨v, h, c⟩ := exQ_ok hx how h
          obtain ⟨E', g1, g2⟩ := XE.put_spec N o.dst v E
          rw [g1] at h
          obtain ⟨E2, H2, he2, h2, c2⟩ := ex3_ok hx l (j + 1) gs H pend pendv E' hp how hgs h
          refine ⟨E2, H2, he2, h2, fun e hs kv q _ => ?_⟩
          simp only [vc3]
          rw [hcf, hc, hm]
          exact c e hs _ (c2 _ (g2 e hs) kv q hp)
        | false =>
          rw [hm] at h
          simp only [cond_false] at h
          obtain ⟨v, h, c⟩ := exQ_ok hx how h
          obtain ⟨ha, h⟩ := bif_some h
          obtain ⟨E', g1, g2⟩ := XE.put_spec N o.dst v E
          rw [g1] at h
          by_cases hE : ∃ e, Same e E
          · obtain ⟨e0, hs0⟩ := hE
            obtain ⟨E2, H2, he2, h2, c2⟩ := ex3_ok hx l (j + 1) gs H _ ((hiOf b es j, fun g => yields P o.op e0 g g v) :: pendv) E' (.cons (fun H hO hH => exAlso_ok hx hO hH e0 hs0) hp) how hgs h
            refine ⟨E2, H2, he2, h2, fun e hs kv q _ => ?_⟩
            simp only [vc3]
            rw [hcf, hc, hm]
            refine c e hs _ (andL_of ?_ ?_)
            · intro p hpm
              unfold stages at hpm
              rw [← List.map_dropLast, ← List.map_drop, List.map_map] at hpm
              obtain ⟨G, hG, rfl⟩ := List.mem_map.1 hpm
              exact exAlso_ok hx (hgs G ((List.dropLast_sublist _).subset ((List.drop_sublist _ _).subset hG))) (List.all_eq_true.1 ha G hG) e hs
            · have e1 : ∀ x, opnd e x = opnd e0 x := fun x => by rw [← xopnd_eq hs, ← xopnd_eq hs0]
              have ef : (fun g => yields P o.op e g g v) = fun g => yields P o.op e0 g g v := by
                funext g
                exact propext ⟨yields_congr fun x _ => e1 x, yields_congr fun x _ => (e1 x).symm⟩
              rw [ef]
              exact c2 _ (g2 e hs) kv q (.cons (fun H hO hH => exAlso_ok hx hO hH e0 hs0) hp)
          · obtain ⟨E2, H2, he2, h2, c2⟩ := ex3_ok hx l (j + 1) gs H _ ((hiOf b es j, fun g => True) :: pendv) E' (.cons (fun H _ hH => trivial) hp) how hgs h
            exact ⟨E2, H2, he2, h2, fun e hs => absurd ⟨e, hs⟩ hE⟩
end
end Go.Ab
namespace Go.Ab
open Go Go.RowKit
def writes (pu : FuncId → Bool) (o : Oper) : Bool :=
  match o.op with
  | .call { callee := .builtin b, args := args, argTypes := ts } => !quietOp (.call { callee := .builtin b, args := args, argTypes := ts })
  | .call { callee := .value (.func f), .. } => !pu f
  | .call _ => true
  | op => !quietOp op
def autoES (pu : FuncId → Bool) (N : Nat) (ops : Array Oper) : List Nat :=
  (List.range ops.size).filter fun j => (litAt N ops j).isNone && (match ops[j]? with | some o => writes pu o | none => false)
inductive Plan where
  | still
  | eff (es : List Nat)
  | flo (es fl : List Nat) (l : Nat)
def floats (ops : Array Oper) (es : List Nat) : List Nat := es.filter fun j => match ops[j]? with
  | some o => match o.op with
    | .alloc _ => true
    | .makeSlice _ _ _ => true
    | _ => false
  | none => false
def planOf (pu : FuncId → Bool) (N : Nat) (ops : Array Oper) : Plan :=
  match autoES pu N ops with
  | [] => .still
  | es => bif chainB (befs ops) es then .eff es else (match (floats ops es).getLast? with
    | some j => .flo (bif es.contains (j + 1) then es else es) (floats ops es) (j + 1)
    | none => .eff es)
def regK (p : Plan) : KT :=
  match p with
  | .still => .leaf
  | .eff es => .eff es
  | .flo es fl l => .flo es fl l
def autoK (pu : FuncId → Bool) (N : Nat) : Code → KT
  | .region _ ops true => regK (planOf pu N ops)
  | .seq a b => .two (autoK pu N a) (autoK pu N b)
  | .cond _ a b => .two (autoK pu N a) (autoK pu N b)
  | .block _ c => .one (autoK pu N c)
  | .loop c => .one (autoK pu N c)
  | _ => .leaf
section
variable (P : Program) (N : Nat)
noncomputable def exReg {R : Type} (ex : CallF) (p : Plan) (ops : Array Oper) (Q : AExit → XE → HT → Option R) (E : XE) (H : HT) : Option R :=
  match p with
  | .still => bif drawOk P ops then exSegsD P N ex ops H 0 (segs ops.toList) Q E else none
  | .eff es => bif draw2Ok P N ops es then ex2 P N ex (befs ops) es 0 ops.toList [H] H [] (Q .normal) E else none
  | .flo es fl l => bif draw3Ok P N ops es fl l then xClr N ops fl E fun E => ex3 P N ex (vopsOf ops fl l) (befs (vopsOf ops fl l)) es fl 0 (vopsOf ops fl l).toList [H] H [] (Q .normal) E else none
noncomputable def exLoop {R : Type} (body : (AExit → XE → HT → Option R) → XE → HT → Option R) (Q : AExit → XE → HT → Option R) : Nat → XE → HT → Option R
  | 0, _, _ => none
  | n + 1, E, H => body (fun x E H => match x with
    | .normal => exLoop body Q n E H
    | x => Q x E H) E H
noncomputable def exC {R : Type} (ex : CallF) (pu : FuncId → Bool) : Code → (AExit → XE → HT → Option R) → XE → HT → Option R
  | .skip, Q, E, H => Q .normal E H
  | .region _ ops draw, Q, E, H => match draw with
    | true => exReg P N ex (planOf pu N ops) ops Q E H
    | false => exSegs P N ex ops (segs ops.toList) Q E H
  | .seq a b, Q, E, H => exC ex pu a (fun x E H => match x with
    | .normal => exC ex pu b Q E H
    | x => Q x E H) E H
  | .cond c a b, Q, E, H => match xopnd E c with
    | .bool true => exC ex pu a Q E H
    | .bool false => exC ex pu b Q E H
    | _ => none
  | .block id c, Q, E, H => exC ex pu c (fun x E H => match x with
    | .exit i => match Nat.beq i id with
      | true => Q .normal E H
      | false => Q (.exit i) E H
    | x => Q x E H) E H
  | .loop c, Q, E, H => exLoop (exC ex pu c) Q manyR E H
  | .exit id, Q, E, H => Q (.exit id) E H
  | .ret, Q, E, H => Q .ret E H
  | .label _, Q, E, H => Q .normal E H
  | _, _, _, _ => none
variable {P N}
def RunsTo {R : Type} (P : Program) (N : Nat) (c : Code) (k : KT) (Q : AExit → XE → HT → Option R) (E : XE) (H : HT) (r : R) : Prop :=
  ∃ x E' H', HT.ext H H' ∧ Q x E' H' = some r ∧ ∀ e, Same e E → ∀ (Qv : AExit → Env → AH → Prop), (∀ e', Same e' E' → Qv x e' H'.ah) → vc P N c k Qv e H.ah
theorem exReg_ok {R : Type} {ex : CallF} (hx : CallOk P ex) {p : Plan} {id : Nat} {ops : Array Oper} {Q : AExit → XE → HT → Option R} {E : XE} {H : HT} (how : H.Own) {r : R} (h : exReg P N ex p ops Q E H = some r) : RunsTo P N (.region id ops true) (regK p) Q E H r := by
  unfold exReg at h
  cases p with
  | still =>
    obtain ⟨hd, h⟩ := bif_some h
    obtain ⟨E', h1, c⟩ := exSegsD_ok hx how _ _ _ h
    refine ⟨.normal, E', H, HT.ext.refl _, h1, fun e hs Qv q => ?_⟩
    simp only [vc, regK, vcReg, hd]
    exact c e hs Qv q
  | eff es =>
    obtain ⟨hd, h⟩ := bif_some h
    obtain ⟨E', H', he, h1, c⟩ := ex2_ok hx _ _ _ _ _ _ _ .nil how (fun g hg => by rw [List.mem_singleton.1 hg]; exact how) h
    refine ⟨.normal, E', H', he, h1, fun e hs Qv q => ?_⟩
    simp only [vc, regK, vcReg, hd]
    exact c e hs _ q .nil
  | flo es fl l =>
    obtain ⟨hd, h⟩ := bif_some h
    obtain ⟨E1, g1, g2⟩ := xClr_spec (N := N) (ops := ops) fl E (fun E => ex3 P N ex (vopsOf ops fl l) (befs (vopsOf ops fl l)) es fl 0 (vopsOf ops fl l).toList [H] H [] (Q .normal) E)
    rw [g1] at h
    obtain ⟨E', H', he, h1, c⟩ := ex3_ok hx _ _ _ _ _ _ _ .nil how (fun g hg => by rw [List.mem_singleton.1 hg]; exact how) h
    refine ⟨.normal, E', H', he, h1, fun e hs Qv q => ?_⟩
    simp only [vc, regK, vcReg, hd]
    exact c _ (g2 e hs) _ q .nil
theorem exLoop_ok {R : Type} {c : Code} {k : KT} {body : (AExit → XE → HT → Option R) → XE → HT → Option R} (hb : ∀ Q E H r, HT.Own H → body Q E H = some r → RunsTo P N c k Q E H r) {Q : AExit → XE → HT → Option R} {r : R} :
    ∀ (n : Nat) (E : XE) (H : HT), H.Own → exLoop body Q n E H = some r →
    ∃ x E' H', HT.ext H H' ∧ Q x E' H' = some r ∧ ∀ e, Same e E → ∀ (Qv : AExit → Env → AH → Prop), (∀ e', Same e' E' → Qv x e' H'.ah) → iterN (vc P N c k) (fun e => e) Qv n e H.ah
  | 0, E, H, _, h => by cases h
  | n + 1, E, H, how, h => by
    simp only [exLoop] at h
    obtain ⟨x, E1, H1, he, h, c1⟩ := hb _ _ _ _ how h
    by_cases hx : x = .normal
    · subst hx
      obtain ⟨x, E2, H2, he2, h2, c2⟩ := exLoop_ok hb n E1 H1 (he.own how) h
      refine ⟨x, E2, H2, he.trans he2, h2, fun e hs Qv q => ?_⟩
      simp only [iterN]
      exact c1 e hs _ fun e' hs' => Meet.of (c2 e' hs' Qv q)
    · have h : Q x E1 H1 = some r := by cases x <;> first | exact h | exact absurd rfl hx
      refine ⟨x, E1, H1, he, h, fun e hs Qv q => ?_⟩
      simp only [iterN]
      refine c1 e hs _ fun e' hs' => ?_
      have := q e' hs'
      cases x <;> first | exact this | exact absurd rfl hx
theorem exC_ok {R : Type} {ex : CallF} (hx : CallOk P ex) {pu : FuncId → Bool} {r : R} : ∀ (c : Code) (Q : AExit → XE → HT → Option R) (E : XE) (H : HT), H.Own → exC P N ex pu c Q E H = some r → RunsTo P N c (autoK pu N c) Q E H r
  | .skip, Q, E, H, how, h => ⟨.normal, E, H, HT.ext.refl _, h, fun e hs Qv q => by simp only [vc]; exact q e hs⟩
  | .region id ops draw, Q, E, H, how, h => by
    simp only [exC] at h
    cases draw with
    | true => exact exReg_ok hx how h
    | false =>
      obtain ⟨x, E', H', he, h1, c⟩ := exSegs_ok hx _ _ _ how h
      exact ⟨x, E', H', he, h1, fun e hs Qv q => by simp only [vc, autoK]; exact c e hs Qv q⟩
  | .seq a b, Q, E, H, how, h => by
    simp only [exC] at h
    obtain ⟨x, E1, H1, he, h, c1⟩ := exC_ok hx a _ E H how h
    by_cases hn : x = .normal
    · subst hn
      obtain ⟨x, E2, H2, he2, h2, c2⟩ := exC_ok hx b _ E1 H1 (he.own how) h
      refine ⟨x, E2, H2, he.trans he2, h2, fun e hs Qv q => ?_⟩
      simp only [vc, autoK]
      exact c1 e hs _ fun e' hs' => c2 e' hs' Qv q
    · have h : Q x E1 H1 = some r := by cases x <;> first | exact h | exact absurd rfl hn
      refine ⟨x, E1, H1, he, h, fun e hs Qv q => ?_⟩
      simp only [vc, autoK]
      refine c1 e hs _ fun e' hs' => ?_
      have := q e' hs'
      cases x <;> first | exact this | exact absurd rfl hn
  | .cond c a b, Q, E, H, how, h => by
    simp only [exC] at h
    split at h
    · rename_i hc
      obtain ⟨x, E1, H1, he, h, c1⟩ := exC_ok hx a _ E H how h
      refine ⟨x, E1, H1, he, h, fun e hs Qv q => ?_⟩
      rw [xopnd_eq hs] at hc
      simp only [vc, autoK, hc, vcIf, if_true]
      exact c1 e hs Qv q
    · rename_i hc
      obtain ⟨x, E1, H1, he, h, c1⟩ := exC_ok hx b _ E H how h
      refine ⟨x, E1, H1, he, h, fun e hs Qv q => ?_⟩
      rw [xopnd_eq hs] at hc
      simp only [vc, autoK, hc, vcIf, Bool.false_eq_true, if_false]
      exact c1 e hs Qv q
    · cases h
  | .block id c, Q, E, H, how, h => by
    simp only [exC] at h
    obtain ⟨x, E1, H1, he, h, c1⟩ := exC_ok hx c _ E H how h
    by_cases hxx : ∃ i, x = .exit i
    · obtain ⟨i, rfl⟩ := hxx
      cases hb : Nat.beq i id with
      | true =>
        simp only [hb] at h
        refine ⟨.normal, E1, H1, he, h, fun e hs Qv q => ?_⟩
        simp only [vc, autoK]
        refine c1 e hs _ fun e' hs' => ?_
        simp only [vcBlock, hb]
        exact q e' hs'
      | false =>
        simp only [hb] at h
        refine ⟨.exit i, E1, H1, he, h, fun e hs Qv q => ?_⟩
        simp only [vc, autoK]
        refine c1 e hs _ fun e' hs' => ?_
        simp only [vcBlock, hb]
        exact q e' hs'
    · have h : Q x E1 H1 = some r := by cases x <;> first | exact h | exact absurd ⟨_, rfl⟩ hxx
      refine ⟨x, E1, H1, he, h, fun e hs Qv q => ?_⟩
      simp only [vc, autoK]
      refine c1 e hs _ fun e' hs' => ?_
      have := q e' hs'
      cases x <;> first | exact this | exact absurd ⟨_, rfl⟩ hxx
  | .loop c, Q, E, H, how, h => by
    simp only [exC] at h
    obtain ⟨x, E1, H1, he, h, c1⟩ := exLoop_ok (fun Q E H r how h => exC_ok hx c Q E H how h) _ E H how h
    refine ⟨x, E1, H1, he, h, fun e hs Qv q => ?_⟩
    simp only [vc, autoK]
    exact ⟨manyR, Meet.of (c1 e hs Qv q)⟩
  | .exit id, Q, E, H, how, h => ⟨.exit id, E, H, HT.ext.refl _, h, fun e hs Qv q => by simp only [vc]; exact q e hs⟩
  | .ret, Q, E, H, how, h => ⟨.ret, E, H, HT.ext.refl _, h, fun e hs Qv q => by simp only [vc]; exact q e hs⟩
  | .label l, Q, E, H, how, h => ⟨.normal, E, H, HT.ext.refl _, h, fun e hs Qv q => by simp only [vc]; exact q e hs⟩
  | .scope _, Q, E, H, how, h => by simp only [exC] at h; cases h
  | .goto _, Q, E, H, how, h => by simp only [exC] at h; cases h
  | .rangeFunc _ _ _ _, Q, E, H, how, h => by simp only [exC] at h; cases h
  | .refuse _, Q, E, H, how, h => by simp only [exC] at h; cases h
variable (P N)
noncomputable def xDefer (E : XE) (c : Call) : Option AD :=
  match c.callee with
  | .value f => match xopnd E f with
    | .fn (.func k) first cap => some (k, first ++ (c.args.toList.map (xopnd E) ++ cap))
    | _ => none
  | _ => none
variable {P N}
theorem xDefer_eq {E : XE} {e : Env} (hs : Same e E) (c : Call) : deferV e c = xDefer E c := by
  unfold deferV xDefer
  rw [xopnd_eq hs]
  rfl
variable (P N)
noncomputable def exRegDf {R : Type} (ex : CallF) (ops : Array Oper) (draw : Bool) (c : Call) (Q : AExit → List AD → XE → HT → Option R) (ds : List AD) (E : XE) (H : HT) : Option R :=
  match draw with
  | true => bif drawOk P ops then exSegsD P N ex ops H 0 (segs (headOps ops)) (fun x E H => match x with
      | .normal => (match xDefer E c with
        | some ad => Q .normal (ad :: ds) E H
        | none => none)
      | _ => none) E else none
  | false => bif (headOps ops).all (fun o => o.guard.isNone) then exRun P N ex (headOps ops) (fun E H => match xDefer E c with
      | some ad => Q .normal (ad :: ds) E H
      | none => none) (fun x E H => Q x ds E H) E H else none
noncomputable def exD {R : Type} (ex : CallF) (pu : FuncId → Bool) : Code → (AExit → List AD → XE → HT → Option R) → List AD → XE → HT → Option R
  | .region id ops draw, Q, ds, E, H => match lastDefer ops with
    | some c => exRegDf P N ex ops draw c Q ds E H
    | none => exC P N ex pu (.region id ops draw) (fun x E H => Q x ds E H) E H
  | .seq a b, Q, ds, E, H => exD ex pu a (fun x ds E H => match x with
    | .normal => exD ex pu b Q ds E H
    | x => Q x ds E H) ds E H
  | .cond c a b, Q, ds, E, H => match xopnd E c with
    | .bool true => exD ex pu a Q ds E H
    | .bool false => exD ex pu b Q ds E H
    | _ => none
  | .block id c, Q, ds, E, H => exD ex pu c (fun x ds E H => match x with
    | .exit i => match Nat.beq i id with
      | true => Q .normal ds E H
      | false => Q (.exit i) ds E H
    | x => Q x ds E H) ds E H
  | c, Q, ds, E, H => exC P N ex pu c (fun x E H => Q x ds E H) E H
variable {P N}
def RunsToD {R : Type} (P : Program) (N : Nat) (c : Code) (k : KT) (Q : AExit → List AD → XE → HT → Option R) (ds : List AD) (E : XE) (H : HT) (r : R) : Prop :=
  ∃ x ds' E' H', HT.ext H H' ∧ Q x ds' E' H' = some r ∧ ∀ e, Same e E → ∀ (Qv : AExit → List AD → Env → AH → Prop), (∀ e', Same e' E' → Qv x ds' e' H'.ah) → vcD P N c k Qv ds e H.ah
theorem exRegDf_ok {R : Type} {ex : CallF} (hx : CallOk P ex) {ops : Array Oper} {draw : Bool} {c : Call} {k : KT} (hk : k.ks = []) {Q : AExit → List AD → XE → HT → Option R} {ds : List AD} {E : XE} {H : HT} (how : H.Own) {r : R} (h : exRegDf P N ex ops draw c Q ds E H = some r) :
    ∃ x ds' E' H', HT.ext H H' ∧ Q x ds' E' H' = some r ∧ ∀ e, Same e E → ∀ (Qv : AExit → List AD → Env → AH → Prop), (∀ e', Same e' E' → Qv x ds' e' H'.ah) → vcRegDf P N ops draw c k Qv ds e H.ah := by
  unfold exRegDf at h
  cases draw with
  | true =>
    obtain ⟨hd, h⟩ := bif_some h
    obtain ⟨E', h1, q1⟩ := exSegsD_ok hx how _ _ _ h
    simp only at h1
    split at h1
    · rename_i ad had
      refine ⟨.normal, ad :: ds, E', H, HT.ext.refl _, h1, fun e hs Qv q => ?_⟩
      simp only [vcRegDf, hd, hk]
      unfold vcDrawDf
      refine q1 e hs _ fun e' hs' => ?_
      simp only
      rw [xDefer_eq hs', had]
      exact q e' hs'
    · cases h1
  | false =>
    obtain ⟨hd, h⟩ := bif_some h
    rcases exRun_ok hx _ _ _ how h with ⟨E', H', he, h1, q1⟩ | ⟨x, E', H', he, h1, q1⟩
    · split at h1
      · rename_i ad had
        refine ⟨.normal, ad :: ds, E', H', he, h1, fun e hs Qv q => ?_⟩
        simp only [vcRegDf, hd]
        refine q1 e hs _ _ fun e' hs' => ?_
        unfold layBy
        rw [xDefer_eq hs', had]
        exact q e' hs'
      · cases h1
    · refine ⟨x, ds, E', H', he, h1, fun e hs Qv q => ?_⟩
      simp only [vcRegDf, hd]
      exact q1 e hs _ _ q
theorem regK_ks (p : Plan) : (regK p).ks = [] := by cases p <;> rfl
theorem exD_ok {R : Type} {ex : CallF} (hx : CallOk P ex) {pu : FuncId → Bool} {r : R} : ∀ (c : Code) (Q : AExit → List AD → XE → HT → Option R) (ds : List AD) (E : XE) (H : HT), H.Own → exD P N ex pu c Q ds E H = some r → RunsToD P N c (autoK pu N c) Q ds E H r
  | .region id ops draw, Q, ds, E, H, how, h => by
    simp only [exD] at h
    split at h
    · rename_i c hl
      obtain ⟨x, ds', E', H', he, h1, q1⟩ := exRegDf_ok (k := autoK pu N (.region id ops draw)) hx (by cases draw <;> first | rfl | exact regK_ks _) how h
      exact ⟨x, ds', E', H', he, h1, fun e hs Qv q => by simp only [vcD, hl]; exact q1 e hs Qv q⟩
    · rename_i hl
      obtain ⟨x, E', H', he, h1, q1⟩ := exC_ok hx _ _ _ _ how h
      exact ⟨x, ds, E', H', he, h1, fun e hs Qv q => by simp only [vcD, hl]; exact q1 e hs _ q⟩
  | .seq a b, Q, ds, E, H, how, h => by
    simp only [exD] at h
    obtain ⟨x, ds1, E1, H1, he, h, c1⟩ := exD_ok hx a _ ds E H how h
    by_cases hn : x = .normal
    · subst hn
      obtain ⟨x, ds2, E2, H2, he2, h2, c2⟩ := exD_ok hx b _ ds1 E1 H1 (he.own how) h
      refine ⟨x, ds2, E2, H2, he.trans he2, h2, fun e hs Qv q => ?_⟩
      simp only [vcD, autoK]
      exact c1 e hs _ fun e' hs' => c2 e' hs' Qv q
    · have h : Q x ds1 E1 H1 = some r := by cases x <;> first | exact h | exact absurd rfl hn
      refine ⟨x, ds1, E1, H1, he, h, fun e hs Qv q => ?_⟩
      simp only [vcD, autoK]
      refine c1 e hs _ fun e' hs' => ?_
      have := q e' hs'
      cases x <;> first | exact this | exact absurd rfl hn
  | .cond c a b, Q, ds, E, H, how, h => by
    simp only [exD] at h
    split at h
    · rename_i hc
      obtain ⟨x, ds1, E1, H1, he, h, c1⟩ := exD_ok hx a _ ds E H how h
      refine ⟨x, ds1, E1, H1, he, h, fun e hs Qv q => ?_⟩
      rw [xopnd_eq hs] at hc
      simp only [vcD, autoK, hc, vcIf, if_true]
      exact c1 e hs Qv q
    · rename_i hc
      obtain ⟨x, ds1, E1, H1, he, h, c1⟩ := exD_ok hx b _ ds E H how h
      refine ⟨x, ds1, E1, H1, he, h, fun e hs Qv q => ?_⟩
      rw [xopnd_eq hs] at hc
      simp only [vcD, autoK, hc, vcIf, Bool.false_eq_true, if_false]
      exact c1 e hs Qv q
    · cases h
  | .block id c, Q, ds, E, H, how, h => by
    simp only [exD] at h
    obtain ⟨x, ds1, E1, H1, he, h, c1⟩ := exD_ok hx c _ ds E H how h
    by_cases hxx : ∃ i, x = .exit i
    · obtain ⟨i, rfl⟩ := hxx
      cases hb : Nat.beq i id with
      | true =>
        simp only [hb] at h
        refine ⟨.normal, ds1, E1, H1, he, h, fun e hs Qv q => ?_⟩
        simp only [vcD, autoK]
        refine c1 e hs _ fun e' hs' => ?_
        simp only [blockD, hb]
        exact q e' hs'
      | false =>
        simp only [hb] at h
        refine ⟨.exit i, ds1, E1, H1, he, h, fun e hs Qv q => ?_⟩
        simp only [vcD, autoK]
        refine c1 e hs _ fun e' hs' => ?_
        simp only [blockD, hb]
        exact q e' hs'
    · have h : Q x ds1 E1 H1 = some r := by cases x <;> first | exact h | exact absurd ⟨_, rfl⟩ hxx
      refine ⟨x, ds1, E1, H1, he, h, fun e hs Qv q => ?_⟩
      simp only [vcD, autoK]
      refine c1 e hs _ fun e' hs' => ?_
      have := q e' hs'
      cases x <;> first | exact this | exact absurd ⟨_, rfl⟩ hxx
  | .skip, Q, ds, E, H, how, h => by
    obtain ⟨x, E', H', he, h1, q1⟩ := exC_ok hx _ _ _ _ how h
    exact ⟨x, ds, E', H', he, h1, fun e hs Qv q => by simp only [vcD]; exact q1 e hs _ q⟩
  | .loop c, Q, ds, E, H, how, h => by
    obtain ⟨x, E', H', he, h1, q1⟩ := exC_ok hx _ _ _ _ how h
    exact ⟨x, ds, E', H', he, h1, fun e hs Qv q => by simp only [vcD]; exact q1 e hs _ q⟩
  | .exit id, Q, ds, E, H, how, h => by
    obtain ⟨x, E', H', he, h1, q1⟩ := exC_ok hx _ _ _ _ how h
    exact ⟨x, ds, E', H', he, h1, fun e hs Qv q => by simp only [vcD]; exact q1 e hs _ q⟩
  | .ret, Q, ds, E, H, how, h => by
    obtain ⟨x, E', H', he, h1, q1⟩ := exC_ok hx _ _ _ _ how h
    exact ⟨x, ds, E', H', he, h1, fun e hs Qv q => by simp only [vcD]; exact q1 e hs _ q⟩
  | .label l, Q, ds, E, H, how, h => by
    obtain ⟨x, E', H', he, h1, q1⟩ := exC_ok hx _ _ _ _ how h
    exact ⟨x, ds, E', H', he, h1, fun e hs Qv q => by simp only [vcD]; exact q1 e hs _ q⟩
  | .scope _, Q, ds, E, H, how, h => by simp only [exD, exC] at h; cases h
  | .goto _, Q, ds, E, H, how, h => by simp only [exD, exC] at h; cases h
  | .rangeFunc _ _ _ _, Q, ds, E, H, how, h => by simp only [exD, exC] at h; cases h
  | .refuse _, Q, ds, E, H, how, h => by simp only [exD, exC] at h; cases h
end
end Go.Ab
