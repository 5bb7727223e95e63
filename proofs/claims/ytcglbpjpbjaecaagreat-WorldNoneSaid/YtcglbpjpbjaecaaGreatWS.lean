/- Sorting none or one. -/
import Derived.Test.YtcglbpjpbjaecaaGreatFT
import Derived.Test.YtcglbpjpbjaecaaGreatXD
import Derived.Shelf.GgSortFunc.Tiny
set_option linter.unusedVariables false
set_option linter.unusedSimpArgs false
namespace Go.Proofs.YtcglbpjpbjaecaaGreat.So
open Go Go.Ab Go.RowKit Go.Proofs
open Go.Proofs.YtcglbpjpbjaecaaGreat.Ru (Pg okP)
set_option maxRecDepth 100000
set_option linter.unusedVariables false
def slRen : Go.Shelf.Ren := ⟨fun | 6 => 161 | 10 => 238 | 11 => 239 | 12 => 240 | 13 => 241 | 14 => 242 | 24 => 276 | 25 => 277 | 26 => 278 | 27 => 279 | 28 => 280 | 29 => 281 | 30 => 282 | 31 => 283 | 32 => 284 | 33 => 285 | 34 => 295 | 35 => 296 | 36 => 297 | 37 => 298 | 38 => 299 | 39 => 304 | n => n, fun | 20 => 20 | 26 => 298 | 35 => 386 | 0 => 0 | 37 => 388 | 3 => 3 | 41 => 330 | 44 => 393 | 49 => 31 | 51 => 49 | 4 => 4 | 54 => 429 | 53 => 428 | 58 => 124 | 5 => 5 | 9 => 9 | 60 => 436 | 64 => 439 | 66 => 444 | 67 => 445 | 17 => 17 | 32 => 383 | 33 => 384 | 82 => 458 | 12 => 12 | 75 => 452 | 76 => 453 | 77 => 454 | 78 => 346 | 79 => 455 | 80 => 456 | n => n, fun n => n⟩
theorem slLay : LaysGg.n6 Tryz.prog slRen := {
  mixed := by kernel_rfl,
  f6 := Tryz.func161.trans (congrArg some (by kernel_rfl)),
  f10 := Tryz.func238.trans (congrArg some (by kernel_rfl)),
  f11 := Tryz.func239.trans (congrArg some (by kernel_rfl)),
  f12 := Tryz.func240.trans (congrArg some (by kernel_rfl)),
  f13 := Tryz.func241.trans (congrArg some (by kernel_rfl)),
  f14 := Tryz.func242.trans (congrArg some (by kernel_rfl)),
  f24 := Tryz.func276.trans (congrArg some (by kernel_rfl)),
  f25 := Tryz.func277.trans (congrArg some (by kernel_rfl)),
  f26 := Tryz.func278.trans (congrArg some (by kernel_rfl)),
  f27 := Tryz.func279.trans (congrArg some (by kernel_rfl)),
  f28 := Tryz.func280.trans (congrArg some (by kernel_rfl)),
  f29 := Tryz.func281.trans (congrArg some (by kernel_rfl)),
  f30 := Tryz.func282.trans (congrArg some (by kernel_rfl)),
  f31 := Tryz.func283.trans (congrArg some (by kernel_rfl)),
  f32 := Tryz.func284.trans (congrArg some (by kernel_rfl)),
  f33 := Tryz.func285.trans (congrArg some (by kernel_rfl)),
  f34 := Tryz.func295.trans (congrArg some (by kernel_rfl)),
  f35 := Tryz.func296.trans (congrArg some (by kernel_rfl)),
  f36 := Tryz.func297.trans (congrArg some (by kernel_rfl)),
  f37 := Tryz.func298.trans (congrArg some (by kernel_rfl)),
  f38 := Tryz.func299.trans (congrArg some (by kernel_rfl)),
  f39 := Tryz.func304.trans (congrArg some (by kernel_rfl)),
  t0 := Tryz.underlying0,
  a0 := Tryz.isAgg0,
  z0 := Tryz.sizeOf0,
  v0 := Tryz.zeroValue0,
  i0 := by kernel_rfl,
  t3 := Tryz.underlying3,
  a3 := Tryz.isAgg3,
  z3 := Tryz.sizeOf3,
  v3 := Tryz.zeroValue3,
  i3 := by kernel_rfl,
  t4 := Tryz.underlying4,
  a4 := Tryz.isAgg4,
  z4 := Tryz.sizeOf4,
  v4 := Tryz.zeroValue4,
  i4 := by kernel_rfl,
  t5 := Tryz.underlying5,
  a5 := Tryz.isAgg5,
  z5 := Tryz.sizeOf5,
  v5 := Tryz.zeroValue5,
  i5 := by kernel_rfl,
  t9 := Tryz.underlying9,
  a9 := Tryz.isAgg9,
  z9 := Tryz.sizeOf9,
  v9 := Tryz.zeroValue9,
  i9 := by kernel_rfl,
  t12 := Tryz.underlying12,
  a12 := Tryz.isAgg12,
  z12 := Tryz.sizeOf12,
  v12 := Tryz.zeroValue12,
  i12 := by kernel_rfl,
  t17 := Tryz.underlying17,
  a17 := Tryz.isAgg17,
  z17 := Tryz.sizeOf17,
  v17 := Tryz.zeroValue17,
  i17 := by kernel_rfl,
  t20 := Tryz.underlying20,
  a20 := Tryz.isAgg20,
  z20 := Tryz.sizeOf20,
  v20 := Tryz.zeroValue20,
  i20 := by kernel_rfl,
  t26 := Tryz.underlying298,
  a26 := Tryz.isAgg298,
  z26 := Tryz.sizeOf298,
  v26 := Tryz.zeroValue298,
  i26 := by kernel_rfl,
  t32 := Tryz.underlying383,
  a32 := Tryz.isAgg383,
  z32 := Tryz.sizeOf383,
  v32 := Tryz.zeroValue383,
  i32 := by kernel_rfl,
  t33 := Tryz.underlying384,
  a33 := Tryz.isAgg384,
  z33 := Tryz.sizeOf384,
  v33 := Tryz.zeroValue384,
  i33 := by kernel_rfl,
  t35 := Tryz.underlying386,
  a35 := Tryz.isAgg386,
  z35 := Tryz.sizeOf386,
  v35 := Tryz.zeroValue386,
  i35 := by kernel_rfl,
  t37 := Tryz.underlying388,
  a37 := Tryz.isAgg388,
  z37 := Tryz.sizeOf388,
  v37 := Tryz.zeroValue388,
  i37 := by kernel_rfl,
  t41 := Tryz.underlying330,
  a41 := Tryz.isAgg330,
  z41 := Tryz.sizeOf330,
  v41 := Tryz.zeroValue330,
  i41 := by kernel_rfl,
  t44 := Tryz.underlying393,
  a44 := Tryz.isAgg393,
  z44 := Tryz.sizeOf393,
  v44 := Tryz.zeroValue393,
  i44 := by kernel_rfl,
  t49 := Tryz.underlying31,
  a49 := Tryz.isAgg31,
  z49 := Tryz.sizeOf31,
  v49 := Tryz.zeroValue31,
  i49 := by kernel_rfl,
  t51 := Tryz.underlying49,
  a51 := Tryz.isAgg49,
  z51 := Tryz.sizeOf49,
  v51 := Tryz.zeroValue49,
  i51 := by kernel_rfl,
  t53 := Tryz.underlying428,
  a53 := Tryz.isAgg428,
  z53 := Tryz.sizeOf428,
  v53 := Tryz.zeroValue428,
  i53 := by kernel_rfl,
  t54 := Tryz.underlying429,
  a54 := Tryz.isAgg429,
  z54 := Tryz.sizeOf429,
  v54 := Tryz.zeroValue429,
  i54 := by kernel_rfl,
  t58 := Tryz.underlying124,
  a58 := Tryz.isAgg124,
  z58 := Tryz.sizeOf124,
  v58 := Tryz.zeroValue124,
  i58 := by kernel_rfl,
  t60 := Tryz.underlying436,
  a60 := Tryz.isAgg436,
  z60 := Tryz.sizeOf436,
  v60 := Tryz.zeroValue436,
  i60 := by kernel_rfl,
  t64 := Tryz.underlying439,
  a64 := Tryz.isAgg439,
  z64 := Tryz.sizeOf439,
  v64 := Tryz.zeroValue439,
  i64 := by kernel_rfl,
  t66 := Tryz.underlying444,
  a66 := Tryz.isAgg444,
  z66 := Tryz.sizeOf444,
  v66 := Tryz.zeroValue444,
  i66 := by kernel_rfl,
  t67 := Tryz.underlying445,
  a67 := Tryz.isAgg445,
  z67 := Tryz.sizeOf445,
  v67 := Tryz.zeroValue445,
  i67 := by kernel_rfl,
  t75 := Tryz.underlying452,
  a75 := Tryz.isAgg452,
  z75 := Tryz.sizeOf452,
  v75 := Tryz.zeroValue452,
  i75 := by kernel_rfl,
  t76 := Tryz.underlying453,
  a76 := Tryz.isAgg453,
  z76 := Tryz.sizeOf453,
  v76 := Tryz.zeroValue453,
  i76 := by kernel_rfl,
  t77 := Tryz.underlying454,
  a77 := Tryz.isAgg454,
  z77 := Tryz.sizeOf454,
  v77 := Tryz.zeroValue454,
  i77 := by kernel_rfl,
  t78 := Tryz.underlying346,
  a78 := Tryz.isAgg346,
  z78 := Tryz.sizeOf346,
  v78 := Tryz.zeroValue346,
  i78 := by kernel_rfl,
  t79 := Tryz.underlying455,
  a79 := Tryz.isAgg455,
  z79 := Tryz.sizeOf455,
  v79 := Tryz.zeroValue455,
  i79 := by kernel_rfl,
  t80 := Tryz.underlying456,
  a80 := Tryz.isAgg456,
  z80 := Tryz.sizeOf456,
  v80 := Tryz.zeroValue456,
  i80 := by kernel_rfl,
  t82 := Tryz.underlying458,
  a82 := Tryz.isAgg458,
  z82 := Tryz.sizeOf458,
  v82 := Tryz.zeroValue458,
  i82 := by kernel_rfl }

noncomputable def siT : TypeInfo := (Pg.info? 167).get (by kernel_rfl)
noncomputable def siE : TypeInfo := (Pg.info? 170).get (by kernel_rfl)
theorem kind170 (w : World) : Sem.run Pg (Extern.Rtype.kind 170) w = .ok 25 w := by kernel_rfl
theorem swp (n : Nat) (h : n ≤ 1) : Pg.funcs.findIdx? (·.name == "internal/reflectlite" ++ ".Swapper$" ++ toString (Lib.swapperK n siE 25)) = some (267 + n) := by
  rcases Nat.eq_zero_or_pos n with h0 | h0
  · subst h0; kernel_rfl
  · obtain rfl : n = 1 := by omega
    kernel_rfl
theorem tiny (p : Option Addr) (n c : Nat) (h : n ≤ 1) (lf : Fn) (la lb : Array Value) (w : World) :
    Calls Pg 161 #[.iface 167 (.slice p n c), .func lf la lb] w fun e w' => e = .returned (.tuple #[]) ∧ ∃ os, w' = Go.Sort.grow w os :=
  Any.sort_Slice_tiny slLay 167 170 siT siE (by kernel_rfl) (by kernel_rfl) (by kernel_rfl) (by kernel_rfl) 25 kind170 p n c h (267 + n) (swp n h) lf la lb w
theorem sortP (a : Option (PA × Nat)) (n : Nat) (hn : n ≤ 1) (f : Fn) (x y : List V) (h : AH) : ACalls Pg 161 [.ifc 167 (.slc a n), .fn f x y] h (pureE (.tup []) h) := by
  intro B ι W vs F r
  obtain ⟨v0, vs0, h0, r0, rfl⟩ := relL_cons_iff.1 r
  obtain ⟨v1, vs1, h1, r1, rfl⟩ := relL_cons_iff.1 r0
  simp only [relL] at r1
  subst r1
  obtain ⟨z, rfl, hz, _⟩ := rel_ifc h0
  obtain ⟨fa, fb, rfl, _, _⟩ := rel_fn h1
  obtain ⟨p, c, rfl⟩ : ∃ p c, z = .slice p n c := by
    cases a with
    | none => obtain ⟨rfl, rfl⟩ := rel_slc_nil hz; exact ⟨none, 0, rfl⟩
    | some a => obtain ⟨q, cap, rfl, _⟩ := rel_slc (a := a.1) (s := a.2) hz; exact ⟨some q, cap, rfl⟩
  refine (tiny p n c hn f fa.toArray fb.toArray W).mono ?_
  rintro e w' ⟨rfl, os, rfl⟩
  have hold : ∀ b, b < W.heap.size → (Go.Sort.grow W os).heap[b]? = W.heap[b]? := fun b hb => Go.Sort.heap_grow_old W os hb
  have hs : W.heap.size ≤ (Go.Sort.grow W os).heap.size := by simp
  refine ⟨ι, h, .ret (.tup []), Names.le_refl _, ?_, .inr ⟨rfl, [], by simp [relL], by simp [Value.cells]⟩, rfl, rfl⟩
  exact (F.grow (fun _ => False) hold (fun _ h => h.elim) rfl rfl rfl hs).rebase (BaseLe.grow F _ hold rfl rfl rfl hs)
end Go.Proofs.YtcglbpjpbjaecaaGreat.So
