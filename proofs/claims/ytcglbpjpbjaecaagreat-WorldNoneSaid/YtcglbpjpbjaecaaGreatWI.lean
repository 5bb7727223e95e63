/- The items of an empty stream: the range over the iterator goes no round. -/
import Derived.Test.YtcglbpjpbjaecaaGreatFT
import Derived.Test.YtcglbpjpbjaecaaGreatXD
import Derived.RangeFuncLeaves
import Derived.RangeFuncRecord
set_option linter.unusedVariables false
set_option linter.unusedSimpArgs false
namespace Go.Proofs.YtcglbpjpbjaecaaGreat.It
open Go Go.Ab Go.RowKit
open Go.Proofs.YtcglbpjpbjaecaaGreat.Ru (Pg okP hd FT pu tabOk)
set_option maxRecDepth 100000
set_option linter.unusedVariables false
section
variable {P : Program} {B : Base} {ι : Names} {h : AH} {W : World}
/-- A block that no object lies in is turned. -/
theorem fits_put {l : Nat} {x x' : Obj} (F : Fits P B ι h W) (hl : W.heap[l]? = some x) (hx : (∀ a b c, x ≠ .cells a b c) ∧ ∀ a b, x ≠ .map a b) (hB : ¬ B.F l) : Fits P B ι h (W.putObj l x') := by
  have ne : ∀ b, b ≠ l → (W.putObj l x').heap[b]? = W.heap[b]? := fun b hb => World.putObj_heap_other hb
  have sz : (W.putObj l x').heap.size = W.heap.size := by simp [World.putObj]
  exact {
    obj := fun n o hm => by
      obtain ⟨L, h1, h2⟩ := F.obj n o hm
      refine ⟨L, h1, objR_keep (Names.le_refl _) (ne _ ?_) h2⟩
      intro e
      cases o with
      | cells own ty v => obtain ⟨_, _, a, b, c, elem, fr, g1, _⟩ := h2; rw [e, hl] at g1; cases g1; exact hx.1 _ _ _ rfl
      | mp kt et es => obtain ⟨xs, c, g1, _⟩ := h2; rw [e, hl] at g1; cases g1; exact hx.2 _ _ rfl
    fresh := F.fresh
    apart := F.apart
    free := F.free
    frame := fun b hb => ⟨(ne b (fun e => hB (e ▸ hb))).trans (F.frame b hb).1, by rw [sz]; exact (F.frame b hb).2⟩
    os := F.os
    tape := F.tape
    output := F.output
    size := by rw [sz]; exact F.size }
/-- A piece of code that goes through. -/
theorem piece (K0 : Ok P) {N : Nat} {c : Code} {k : KT} {D : List AD} {E E' : XE} {H H' : HT} (cc : ∀ e, Same e E → ∀ (Qv : AExit → Env → AH → Prop), (∀ e', Same e' E' → Qv .normal e' H'.ah) → vc P N c k Qv e H.ah)
    {e : Env} {a : Act} {Q : Exit → Act → World → Prop} (F : Fits P B ι H.ah W) (r : relE P ι N D e a) (hs : Same e E)
    (next : ∀ ι' W' e' a', Names.le ι ι' → Fits P B ι' H'.ah W' → relE P ι' N D e' a' → Same e' E' → Q .normal a' W') : c.wp P Q a W := by
  refine wp_mono (vc_ok K0 c k (fun x e h => x = .normal ∧ Same e E' ∧ h = H'.ah) ι H.ah W e a F r (cc e hs _ fun e' h => ⟨rfl, h, rfl⟩)) ?_
  rintro x a' w ⟨ι', h', e', ax, p1, p2, p3, p4, rfl, p6, rfl⟩
  cases x with
  | normal => exact next ι' w e' a' p1 p2 p3 p6
  | _ => exact p4.elim
end
theorem lift_nil {P : Program} {f : FuncId} {args : List V} {v : V} (ha : flatBs args = true) (hv : oldV (fun _ => false) v = true) (c : ACalls P f args AH0 fun e _ => e = .ret v) (h : AH) : ACalls P f args h (pureE v h) := by
  intro B ι W vs F r
  refine (c _ _ W vs (fits0 W) (flat_relL args vs ha r)).mono ?_
  rintro e w' ⟨ι', h', ae, h1, h2, h3, rfl⟩
  have hold : ∀ b, b < W.heap.size → w'.heap[b]? = W.heap[b]? := fun b hb => (h2.frame b hb).1
  refine ⟨ι, h, .ret v, Names.le_refl _, ?_, ?_, rfl, rfl⟩
  · exact (F.grow (fun _ => False) hold (fun _ h => h.elim) h2.os h2.tape h2.output h2.size).rebase (BaseLe.grow F _ hold h2.os h2.tape h2.output h2.size)
  · cases e with
    | returned x => exact rel_le (ι := fun _ => none) (fun n L h => by cases h) (old_rel (ι := fun _ => none) (fun n hn => by cases hn) h1 hv h3)
    | panicked c => exact h3.elim
    | outgrown => exact h3.elim
noncomputable def B155 : Code := (Tryz.f155.body).getD .skip
noncomputable def asg : Code := match subC B155 [1, 1, 1, 1, 0, 1, 0] with | .rangeFunc _ _ a _ => a | _ => .skip
noncomputable def bdy : Code := match subC B155 [1, 1, 1, 1, 0, 1, 0] with | .rangeFunc _ _ _ b => b | _ => .skip
noncomputable def C0 : Code := subC B155 [0]
noncomputable def C1 : Code := subC B155 [1, 0]
noncomputable def C2 : Code := subC B155 [1, 1, 0]
noncomputable def C3 : Code := subC B155 [1, 1, 1, 0]
noncomputable def C4 : Code := subC B155 [1, 1, 1, 1, 0, 0]
noncomputable def C5 : Code := subC B155 [1, 1, 1, 1, 1]
theorem shape : B155 = .seq C0 (.seq C1 (.seq C2 (.seq C3 (.seq (.seq C4 (.block 0 (.rangeFunc (.tmp 31) #[32, 33] asg bdy))) C5)))) := by kernel_rfl
noncomputable def exI : CallF := (exTabM Pg FT hd noMemo pu 60).ex
noncomputable def nx {R : Type} (k : XE → HT → Option R) : AExit → XE → HT → Option R := fun x E H => match x with
  | .normal => k E H
  | _ => none
theorem nx_some {R : Type} {k : XE → HT → Option R} {x : AExit} {E : XE} {H : HT} {r : R} (h : nx k x E H = some r) : x = .normal ∧ k E H = some r := by
  unfold nx at h
  cases x <;> first | exact ⟨rfl, h⟩ | cases h
def args : List V := [.int .u64 1, .str [], .int .u64 1]
noncomputable def E0 : XE := xInit args 0 .nil fun E => E
/-- Behind the statement. -/
noncomputable def fin5 : AExit → XE → HT → Option Unit := fun x E H => match x with
  | .ret => bif sameV (XE.get E 6) (.slc none 0) && sameV (XE.get E 7) (.int .u64 1) then some () else none
  | _ => none
/-- The code ahead of the statement. -/
noncomputable def pre : Option (XE × HT) :=
  exC Pg 53 exI pu C0 (nx fun E H => exC Pg 53 exI pu C1 (nx fun E H => exC Pg 53 exI pu C2 (nx fun E H => exC Pg 53 exI pu C3 (nx fun E H => exC Pg 53 exI pu C4 (nx fun E H => some (E, H)) E H) E H) E H) E H) E0 HT0
noncomputable def E4 : XE := (pre.getD (.nil, HT0)).1
noncomputable def H4 : HT := (pre.getD (.nil, HT0)).2
theorem pre_eq : pre = some (E4, H4) := by kernel_rfl
def sP : V := .ptr (some ⟨3, .one 9, []⟩)
theorem slot31 : XE.get E4 31 = .fn (.func 266) [] [sP] := by kernel_rfl
/-- The iterator, and the rest. -/
noncomputable def post (l : Nat) : Option Unit := exI Unit 266 [.fn (.yield l) [] [], sP] H4 fun ae H => match ae with
    | .ret _ => exC Pg 53 exI pu C5 fin5 E4 H
    | .panic _ => none
theorem post_eq (l : Nat) : post l = some () := by kernel_rfl
theorem itemsC0 (hh : HdOk Pg hd) : ACalls Pg 155 args AH0 fun e _ => e = .ret (.tup [.slc none 0, .int .u64 1]) := by
  intro B ι W vs F ra
  have hx : CallOk Pg exI := (exTabM_ok okP tabOk hh noMemo_ok 60).1
  obtain ⟨E0', q1, q2⟩ := xInit_same args
  have hE0 : E0 = E0' := q1 XE fun E => E
  have hs0 : Same (initEnv 0 args) E0 := hE0 ▸ q2
  have hp := pre_eq
  unfold pre at hp
  obtain ⟨x, E1, H1, o1, hp, c0⟩ := exC_ok (pu := pu) hx C0 _ _ _ HT0_own hp
  obtain ⟨rfl, hp⟩ := nx_some hp
  have w1 := o1.own HT0_own
  obtain ⟨x, E2, H2, o2, hp, c1⟩ := exC_ok (pu := pu) hx C1 _ _ _ w1 hp
  obtain ⟨rfl, hp⟩ := nx_some hp
  have w2 := o2.own w1
  obtain ⟨x, E3, H3, o3, hp, c2⟩ := exC_ok (pu := pu) hx C2 _ _ _ w2 hp
  obtain ⟨rfl, hp⟩ := nx_some hp
  have w3 := o3.own w2
  obtain ⟨x, E3b, H3b, o3b, hp, c3⟩ := exC_ok (pu := pu) hx C3 _ _ _ w3 hp
  obtain ⟨rfl, hp⟩ := nx_some hp
  have w3b := o3b.own w3
  obtain ⟨x, E5, H5, o5, hp, c4⟩ := exC_ok (pu := pu) hx C4 _ _ _ w3b hp
  obtain ⟨rfl, hp⟩ := nx_some hp
  have w5 := o5.own w3b
  have hp : some (E5, H5) = some (E4, H4) := hp
  simp only [Option.some.injEq, Prod.mk.injEq] at hp
  obtain ⟨e5, h5⟩ := hp
  rw [e5, h5] at c4
  rw [h5] at w5
  rw [← HT0_ah] at F
  refine callsIn_wide (n := 0) |>.1 (callsIn_of_wp_marks Tryz.func155 (show Tryz.f155.body = some B155 from by kernel_rfl) trivial ?_)
  rw [wpIn_wide, shape]
  have hE : relE Pg ι 53 [] (initEnv 0 args) { tmps := vs.toArray ++ Array.replicate (Tryz.f155.ntmps - vs.toArray.size) undef, defers := [] } := initE (by kernel_rfl) ra
  refine wp_seq (piece okP c0 F hE hs0 fun ι1 W1 e1 a1 l1 F1 r1 s1 => ?_)
  refine wp_seq (piece okP c1 F1 r1 s1 fun ι2 W2 e2 a2 l2 F2 r2 s2 => ?_)
  refine wp_seq (piece okP c2 F2 r2 s2 fun ι3 W3 e3 a3 l3 F3 r3 s3 => ?_)
  refine wp_seq (piece okP c3 F3 r3 s3 fun ι4 W4 e4 a4 l4 F4 r4 s4 => ?_)
  refine wp_seq (wp_seq (piece okP c4 F4 r4 s4 fun ι5 W5 e5 a5 l5 F5 r5 s5 => ?_))
  have ll : Names.le ι ι5 := Names.le_trans l1 (Names.le_trans l2 (Names.le_trans l3 (Names.le_trans l4 l5)))
  refine wp_block ?_
  rw [← wpIn_wide (n := 0)]
  refine wpIn_rangeFunc fun fn hfn => ?_
  -- the two blocks
  obtain ⟨rec, hrec⟩ : ∃ rec : Loop, rec = { state := .ready, pending := none, fn, tmps := a5.tmps, params := #[32, 33], assign := asg, body := bdy, defers := W5.heap.size } := ⟨_, rfl⟩
  obtain ⟨Wl, hWl⟩ : ∃ Wl, (W5.alloc (.deferred (some []))).alloc (.loop rec) = Wl := ⟨_, rfl⟩
  have hL : Wl.heap[W5.heap.size + 1]? = some (.loop rec) := by
    rw [← hWl]; have := World.alloc_heap_new (W5.alloc (.deferred (some []))) (.loop rec); rwa [World.size_alloc] at this
  have hD : Wl.heap[W5.heap.size]? = some (.deferred (some [])) := by
    rw [← hWl]; exact (Below.heap_alloc _ _ _ (by simp)).trans (World.alloc_heap_new W5 _)
  have hb : ∀ b, b < W5.heap.size → Wl.heap[b]? = W5.heap[b]? := fun b hb => by
    rw [← hWl]; exact (Below.heap_alloc _ _ _ (by simp; omega)).trans (Below.heap_alloc _ _ _ hb)
  have hsz : Wl.heap.size = W5.heap.size + 2 := by rw [← hWl]; simp
  have ho : Wl.os = W5.os := by rw [← hWl]; rfl
  have ht : Wl.tape = W5.tape := by rw [← hWl]; rfl
  have hpp : Wl.output = W5.output := by rw [← hWl]; rfl
  have F6 := F5.grow (W' := Wl) (fun c => c = W5.heap.size ∨ c = W5.heap.size + 1) hb (fun b h => by omega) ho ht hpp (by omega)
  have nD : ¬ B.F W5.heap.size := fun h => Nat.lt_irrefl _ (F5.frame _ h).2
  have nL : ¬ B.F (W5.heap.size + 1) := fun h => by have := (F5.frame _ h).2; omega
  -- the iterator
  have hi := post_eq (W5.heap.size + 1)
  unfold post at hi
  obtain ⟨ae, H6, o6, hi, hent, hc⟩ := hx _ _ _ _ _ _ w5 hi
  cases ae with
  | panic _ => cases hi
  | ret u =>
  have hi : exC Pg 53 exI pu C5 fin5 E4 H6 = some () := hi
  obtain ⟨x, E7, H7, o7, hi, c7⟩ := exC_ok (pu := pu) hx C5 _ _ _ (o6.own w5) hi
  have hfin : x = .ret ∧ XE.get E7 6 = .slc none 0 ∧ XE.get E7 7 = .int .u64 1 := by
    unfold fin5 at hi
    cases x <;> first | (cases hi; done) | skip
    obtain ⟨hb, _⟩ := bif_some hi
    rw [Bool.and_eq_true] at hb
    exact ⟨rfl, sameV_eq _ _ hb.1, sameV_eq _ _ hb.2⟩
  obtain ⟨rfl, g6, g7⟩ := hfin
  have hρ := rel_opnd r5 (.tmp 31)
  rw [show opnd e5 (.tmp 31) = .fn (.func 266) [] [sP] from (s5 31).trans slot31] at hρ
  obtain ⟨fa, fb, hf1, hf2, hf3⟩ := rel_fn hρ
  simp only [relL] at hf2
  subst hf2
  refine ⟨W5.heap.size + 1, [{ target := .collected W5.heap.size, args := #[] }], Wl, { target := .fn (.func 266) fb.toArray, args := #[.func (.yield (W5.heap.size + 1)) #[] #[]] }, Wl, 266,
    #[.func (.yield (W5.heap.size + 1)) #[] #[]] ++ fb.toArray, Wl, ?_, ?_, fun _ _ => trivial, ?_, fun h => by simp [Fence.wide] at h, ?_⟩
  · rw [← hWl, hrec]; exact run_enterLoop_outer _ _ _ _ _
  · simp only [resolve, hf1]
    simp [go_sem]
  · exact run_callFunc hent _ Wl
  have ry : rel Pg ι5 (.fn (.yield (W5.heap.size + 1)) [] []) (.func (.yield (W5.heap.size + 1)) #[] #[]) := .inr ⟨rfl, [], [], rfl, rfl, rfl⟩
  have hcall := hc _ ι5 Wl (.func (.yield (W5.heap.size + 1)) #[] #[] :: fb) F6 (relL_cons ry hf3)
  have harr : (Value.func (.yield (W5.heap.size + 1)) #[] #[] :: fb).toArray = #[.func (.yield (W5.heap.size + 1)) #[] #[]] ++ fb.toArray := by simp
  rw [harr] at hcall
  refine callsIn_wide.2 (hcall.mono ?_)
  rintro e W6 ⟨ι6, h6, ae', l6, F7, re, rfl, rfl⟩
  cases e with
  | panicked _ => exact re.elim
  | outgrown => exact re.elim
  | returned v =>
  have hL6 : W6.heap[W5.heap.size + 1]? = some (.loop rec) := (F7.frame _ (.inr (.inr rfl))).1.trans hL
  refine ⟨none, W6.putObj (W5.heap.size + 1) (.loop { rec with state := .exhausted }), ?_, ?_⟩
  · have := run_endLoop (P := Pg) hL6 (by rw [hrec]; simp)
    rw [this, hrec]
  -- the rest
  obtain ⟨W7, hW7⟩ : ∃ W7, W6.putObj (W5.heap.size + 1) (.loop { rec with state := .exhausted }) = W7 := ⟨_, rfl⟩
  rw [hW7]
  have F8 : Fits Pg ⟨fun c => B.F c ∨ c = W5.heap.size, Wl⟩ ι6 H6.ah W7 := by
    rw [← hW7]
    refine fits_put (Fits.rebase (B' := ⟨fun c => B.F c ∨ (c = W5.heap.size ∨ c = W5.heap.size + 1), Wl⟩) ⟨fun c hc => ⟨hc.elim .inl fun h => .inr (.inl h), rfl⟩, rfl, rfl, rfl, Nat.le_refl _⟩ F7) hL6 ⟨fun _ _ _ h => (by cases h), fun _ _ h => (by cases h)⟩ ?_
    rintro (h | h)
    · exact nL h
    · omega
  have r5' := relE_le l6 r5
  have hdef : a5.defers = [] := r5'.2.1
  have r8 : relE Pg ι6 53 [(Pg.funcs.size, [.agg [.und, .int .u64 (W5.heap.size : Int)]])] e5 { a5 with defers := [{ target := .collected W5.heap.size, args := #[] }] ++ a5.defers } :=
    ⟨r5'.1, ⟨_, _, rfl, .inr ⟨Nat.le_refl _, W5.heap.size, rfl, rfl⟩, hdef⟩, r5'.2.2⟩
  show C5.wp Pg _ _ _
  refine wp_mono (vc_ok okP C5 _ (fun x e h => x = .ret ∧ Same e E7 ∧ h = H7.ah) ι6 H6.ah W7 e5 _ F8 r8 (c7 e5 s5 _ fun e' h => ⟨rfl, h, rfl⟩)) ?_
  rintro x a w ⟨ι', h', e', ax, p1, p2, p3, p4, rfl, p6, rfl⟩
  cases x with
  | ret =>
    obtain ⟨d, rest, hd, hx8, hr8⟩ := p3.2.1
    have hdm : d = { target := .collected W5.heap.size, args := #[] } := by
      rcases hx8 with ⟨cap, _, hbad⟩ | ⟨_, r, hr, hd⟩
      · exfalso
        obtain ⟨y, ys, h1, _, _⟩ := relL_cons_iff.1 hbad
        rcases h1 with h1 | ⟨_, h1⟩
        · cases h1
        · simp only [relC, relCs] at h1
          obtain ⟨_, _, h1, _⟩ := h1
          exact h1
      · simp only [List.cons.injEq, V.agg.injEq, V.int.injEq, true_and, and_true] at hr
        have : W5.heap.size = r := by omega
        rw [this]; exact hd
    have hrest : rest = [] := hr8
    have hDw : w.heap[W5.heap.size]? = some (.deferred (some [])) := (p2.frame _ (.inr rfl)).1.trans hD
    have F9 : Fits Pg ⟨fun c => B.F c ∨ False, Wl⟩ ι' H7.ah (w.putObj W5.heap.size (.deferred none)) := by
      refine fits_put (Fits.rebase (B' := ⟨fun c => B.F c ∨ c = W5.heap.size, Wl⟩) ⟨fun c hc => ⟨hc.elim .inl fun h => h.elim, rfl⟩, rfl, rfl, rfl, Nat.le_refl _⟩ p2) hDw ⟨fun _ _ _ h => (by cases h), fun _ _ h => (by cases h)⟩ ?_
      rintro (h | h)
      · exact nD h
      · exact h
    have hres : aRes Pg e' H7.ah Tryz.f155.results.toList = some [.slc none 0, .int .u64 1] := by
      show aRes Pg e' H7.ah [.tmp 6, .tmp 7] = _
      simp only [aRes, p6 6, p6 7, g6, g7]
    obtain ⟨v, hv1, hv2⟩ := run_results okP F9 p3 hres
    show LeavesInM Fence.wide 0 Pg Tryz.f155 a.tmps _ a.defers .returning w
    rw [hd, hdm, hrest]
    refine ⟨by simp, .inl ⟨W5.heap.size, _, rfl, run_takeDeferred hDw, ?_⟩⟩
    exact ⟨v, hv1, ι', H7.ah, .ret (one [.slc none 0, .int .u64 1]), Names.le_trans ll (Names.le_trans l6 p1), F9.rebase (BaseLe.grow F5 (fun _ => False) hb ho ht hpp (by omega)), hv2, rfl⟩
  | _ => exact p4.elim
theorem itemsP (hh : HdOk Pg hd) (h : AH) : ACalls Pg 155 args h (pureE (.tup [.slc none 0, .int .u64 1]) h) := lift_nil rfl rfl (itemsC0 hh) h
end Go.Proofs.YtcglbpjpbjaecaaGreat.It
