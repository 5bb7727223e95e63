import Derived.Test.YtcglbpjpbjaecaaGreatS09
import Derived.Test.YtcglbpjpbjaecaaGreatS06
set_option linter.unusedVariables false
set_option linter.unusedSimpArgs false
namespace Go.Ab
open Go Go.RowKit
set_option linter.constructorNameAsVariable false
noncomputable def fNat {R : Type} (n : Nat) (k : Nat → R) : R := Nat.rec (k 0) (fun m _ => k (Nat.succ m)) n
theorem fNat_eq {R : Type} (n : Nat) (k : Nat → R) : fNat n k = k n := by cases n <;> rfl
noncomputable def fInt {R : Type} (i : Int) (k : Int → R) : R := Int.rec (fun n => fNat n fun m => k (.ofNat m)) (fun n => fNat n fun m => k (.negSucc m)) i
theorem fInt_eq {R : Type} (i : Int) (k : Int → R) : fInt i k = k i := by
  cases i with
  | ofNat n => exact fNat_eq n fun m => k (.ofNat m)
  | negSucc n => exact fNat_eq n fun m => k (.negSucc m)
noncomputable def fBool {R : Type} (b : Bool) (k : Bool → R) : R := Bool.rec (k false) (k true) b
theorem fBool_eq {R : Type} (b : Bool) (k : Bool → R) : fBool b k = k b := by cases b <;> rfl
noncomputable def fNats {R : Type} (l : List Nat) : (List Nat → R) → R :=
  List.rec (motive := fun _ => (List Nat → R) → R) (fun k => k []) (fun a _ ih k => fNat a fun a => ih fun l => k (a :: l)) l
theorem fNats_eq {R : Type} : ∀ (l : List Nat) (k : List Nat → R), fNats l k = k l
  | [], _ => rfl
  | a :: l, k => by
    have : fNats (a :: l) k = fNat a fun a => fNats l fun l => k (a :: l) := rfl
    rw [this, fNat_eq, fNats_eq l]
noncomputable def fStr {R : Type} (l : List UInt8) : (List UInt8 → R) → R :=
  List.rec (motive := fun _ => (List UInt8 → R) → R) (fun k => k []) (fun a _ ih k => fNat a.toNat fun a => ih fun l => k (UInt8.ofNat a :: l)) l
theorem fStr_eq {R : Type} : ∀ (l : List UInt8) (k : List UInt8 → R), fStr l k = k l
  | [], _ => rfl
  | a :: l, k => by
    have : fStr (a :: l) k = fNat a.toNat fun a => fStr l fun l => k (UInt8.ofNat a :: l) := rfl
    rw [this, fNat_eq, fStr_eq l, UInt8.ofNat_toNat]
noncomputable def fSpine {α R : Type} (l : List α) : (List α → R) → R :=
  List.rec (motive := fun _ => (List α → R) → R) (fun k => k []) (fun a _ ih k => ih fun l => k (a :: l)) l
theorem fSpine_eq {α R : Type} : ∀ (l : List α) (k : List α → R), fSpine l k = k l
  | [], _ => rfl
  | a :: l, k => by
    have : fSpine (a :: l) k = fSpine l fun l => k (a :: l) := rfl
    rw [this, fSpine_eq l]
noncomputable def fV {R : Type} (v : V) (k : V → R) : R :=
  match v with
  | .int kd i => fInt i fun i => k (.int kd i)
  | .bool b => fBool b fun b => k (.bool b)
  | .str s => fStr s fun s => k (.str s)
  | .ptr (some ⟨n, ty, p⟩) => fNat n fun n => fNats p fun p => k (.ptr (some ⟨n, ty, p⟩))
  | .slc (some (⟨n, ty, p⟩, i)) len => fNat n fun n => fNats p fun p => fNat i fun i => fNat len fun len => k (.slc (some (⟨n, ty, p⟩, i)) len)
  | .agg l => fSpine l fun l => k (.agg l)
  | v => k v
theorem fV_eq {R : Type} (v : V) (k : V → R) : fV v k = k v := by
  unfold fV
  split <;> simp only [fInt_eq, fBool_eq, fStr_eq, fNat_eq, fNats_eq, fSpine_eq]
noncomputable def fPutL {R : Type} (g : V → (V → Option R) → Option R) (l : List V) : Nat → (List V → Option R) → Option R :=
  List.rec (motive := fun _ => Nat → (List V → Option R) → Option R) (fun _ _ => none)
    (fun a t ih n k => Nat.rec (motive := fun _ => Option R) (g a fun a => k (a :: t)) (fun m _ => ih m fun l => k (a :: l)) n) l
noncomputable def fPut {R : Type} (x : V) (ok : V → Bool) (p : List Nat) : V → (V → Option R) → Option R :=
  List.rec (motive := fun _ => V → (V → Option R) → Option R) (fun v k => Bool.rec none (k x) (ok v)) (fun i _ ih v k => match v with
    | .agg l => fPutL ih l i fun l => k (.agg l)
    | _ => none) p
theorem fPutL_some {R : Type} {g : V → (V → Option R) → Option R} {w : V → Option V} (hg : ∀ a k r, g a k = some r → ∃ b, w a = some b ∧ k b = some r) :
    ∀ (l : List V) (n : Nat) (k : List V → Option R) (r : R), fPutL g l n k = some r → ∃ a b, l[n]? = some a ∧ w a = some b ∧ k (l.set n b) = some r
  | [], _, _, _, h => by cases h
  | a :: t, 0, k, r, h => by
    have h : g a (fun a => k (a :: t)) = some r := h
    obtain ⟨b, h1, h2⟩ := hg _ _ _ h
    exact ⟨a, b, rfl, h1, h2⟩
  | a :: t, n + 1, k, r, h => by
    have h : fPutL g t n (fun l => k (a :: l)) = some r := h
    obtain ⟨a', b, h1, h2, h3⟩ := fPutL_some hg t n _ r h
    exact ⟨a', b, h1, h2, h3⟩
theorem fPut_some {R : Type} {x : V} {ok : V → Bool} : ∀ (p : List Nat) (v : V) (k : V → Option R) (r : R), fPut x ok p v k = some r → ∃ w v', getV v p = some w ∧ ok w = true ∧ setV v p x = some v' ∧ k v' = some r
  | [], v, k, r, h => by
    have h : Bool.rec none (k x) (ok v) = some r := h
    cases ho : ok v with
    | false => rw [ho] at h; cases h
    | true => rw [ho] at h; exact ⟨v, x, by simp [getV], ho, by simp [setV], h⟩
  | i :: p, v, k, r, h => by
    cases v with
    | agg l =>
      have h : fPutL (fPut x ok p) l i (fun l => k (.agg l)) = some r := h
      obtain ⟨a, b, h1, h2, h3⟩ := fPutL_some (w := fun a => match getV a p with | some w => if ok w = true then setV a p x else none | none => none) (fun a k r h => by
        obtain ⟨w, v', g1, g2, g3, g4⟩ := fPut_some p a k r h
        exact ⟨v', by simp only [g1, g2, if_true, g3], g4⟩) l i _ r h
      split at h2
      · rename_i w hw
        split at h2
        · rename_i ho
          exact ⟨w, .agg (l.set i b), by simp only [getV, h1, hw], ho, by simp only [setV, h1, h2], h3⟩
        · cases h2
      · cases h2
    | _ => cases h
inductive D8 where | a | b | c | d | e | f | g | h
  deriving DecidableEq
inductive T8 (α : Type) where
  | nil
  | node (o : Option α) (a b c d e f g h : T8 α)
section
variable {α R : Type}
def T8.ch (t : T8 α) (d : D8) : T8 α :=
  match t with
  | .nil => .nil
  | .node _ a b c dd e f g h => match d with | .a => a | .b => b | .c => c | .d => dd | .e => e | .f => f | .g => g | .h => h
def T8.val (t : T8 α) : Option α :=
  match t with
  | .nil => none
  | .node o .. => o
noncomputable def T8.get (p : List D8) : T8 α → Option α :=
  List.rec (motive := fun _ => T8 α → Option α) (fun t => T8.rec (motive := fun _ => Option α) none (fun o _ _ _ _ _ _ _ _ _ _ _ _ _ _ _ _ => o) t)
    (fun x _ ih t => T8.rec (motive := fun _ => Option α) none (fun _ a b c d e f g h _ _ _ _ _ _ _ _ => ih (D8.rec (motive := fun _ => T8 α) a b c d e f g h x)) t) p
noncomputable def T8.upd (o : Option α) (p : List D8) : T8 α → (T8 α → R) → R :=
  List.rec (motive := fun _ => T8 α → (T8 α → R) → R)
    (fun t k => T8.rec (motive := fun _ => R) (k (.node o .nil .nil .nil .nil .nil .nil .nil .nil)) (fun _ a b c d e f g h _ _ _ _ _ _ _ _ => k (.node o a b c d e f g h)) t)
    (fun x _ ih t k => T8.rec (motive := fun _ => R)
      (D8.rec (motive := fun _ => R) (ih .nil fun y => k (.node none y .nil .nil .nil .nil .nil .nil .nil)) (ih .nil fun y => k (.node none .nil y .nil .nil .nil .nil .nil .nil)) (ih .nil fun y => k (.node none .nil .nil y .nil .nil .nil .nil .nil))
        (ih .nil fun y => k (.node none .nil .nil .nil y .nil .nil .nil .nil)) (ih .nil fun y => k (.node none .nil .nil .nil .nil y .nil .nil .nil)) (ih .nil fun y => k (.node none .nil .nil .nil .nil .nil y .nil .nil))
        (ih .nil fun y => k (.node none .nil .nil .nil .nil .nil .nil y .nil)) (ih .nil fun y => k (.node none .nil .nil .nil .nil .nil .nil .nil y)) x)
      (fun w a b c d e f g h _ _ _ _ _ _ _ _ => D8.rec (motive := fun _ => R) (ih a fun y => k (.node w y b c d e f g h)) (ih b fun y => k (.node w a y c d e f g h)) (ih c fun y => k (.node w a b y d e f g h))
        (ih d fun y => k (.node w a b c y e f g h)) (ih e fun y => k (.node w a b c d y f g h)) (ih f fun y => k (.node w a b c d e y g h)) (ih g fun y => k (.node w a b c d e f y h)) (ih h fun y => k (.node w a b c d e f g y)) x) t) p
theorem T8.get_nil (p : List D8) : T8.get p (.nil : T8 α) = none := by cases p <;> rfl
theorem T8.get_z (t : T8 α) : T8.get [] t = t.val := by cases t <;> rfl
theorem T8.get_s (x : D8) (p : List D8) (t : T8 α) : T8.get (x :: p) t = T8.get p (t.ch x) := by
  cases t with
  | nil => show none = T8.get p .nil; rw [T8.get_nil]
  | node => cases x <;> rfl
theorem T8.upd_spec (o : Option α) : ∀ (p : List D8) (t : T8 α), ∃ t', (∀ (R : Type) (k : T8 α → R), T8.upd o p t k = k t') ∧ T8.get p t' = o ∧ ∀ q, q ≠ p → T8.get q t' = T8.get q t
  | [], t => by
    cases t with
    | nil => exact ⟨.node o .nil .nil .nil .nil .nil .nil .nil .nil, fun _ _ => rfl, rfl, fun q hq => by
        cases q with
        | nil => exact absurd rfl hq
        | cons x q => rw [T8.get_s, T8.get_s]; cases x <;> rfl⟩
    | node w a b c d e f g h => exact ⟨.node o a b c d e f g h, fun _ _ => rfl, rfl, fun q hq => by
        cases q with
        | nil => exact absurd rfl hq
        | cons x q => rw [T8.get_s, T8.get_s]; cases x <;> rfl⟩
  | x :: p, t => by
    obtain ⟨y, h1, h2, h3⟩ := T8.upd_spec o p (t.ch x)
    have key : ∃ t' : T8 α, (∀ (R : Type) (k : T8 α → R), T8.upd o (x :: p) t k = k t') ∧ t'.ch x = y ∧ (∀ z, z ≠ x → t'.ch z = t.ch z) ∧ t'.val = t.val := by
      cases t with
      | nil =>
        have e : ∀ (R : Type) (k : T8 α → R), T8.upd o p (T8.nil : T8 α) k = k y := by have := h1; cases x <;> exact this
        cases x
        · exact ⟨.node none y .nil .nil .nil .nil .nil .nil .nil, fun R k => e R fun y => k (.node none y .nil .nil .nil .nil .nil .nil .nil), rfl, fun z hz => by cases z <;> first | rfl | exact absurd rfl hz, rfl⟩
        · exact ⟨.node none .nil y .nil .nil .nil .nil .nil .nil, fun R k => e R fun y => k (.node none .nil y .nil .nil .nil .nil .nil .nil), rfl, fun z hz => by cases z <;> first | rfl | exact absurd rfl hz, rfl⟩
        · exact ⟨.node none .nil .nil y .nil .nil .nil .nil .nil, fun R k => e R fun y => k (.node none .nil .nil y .nil .nil .nil .nil .nil), rfl, fun z hz => by cases z <;> first | rfl | exact absurd rfl hz, rfl⟩
        · exact ⟨.node none .nil .nil .nil y .nil .nil .nil .nil, fun R k => e R fun y => k (.node none .nil .nil .nil y .nil .nil .nil .nil), rfl, fun z hz => by cases z <;> first | rfl | exact absurd rfl hz, rfl⟩
        · exact ⟨.node none .nil .nil .nil .nil y .nil .nil .nil, fun R k => e R fun y => k (.node none .nil .nil .nil .nil y .nil .nil .nil), rfl, fun z hz => by cases z <;> first | rfl | exact absurd rfl hz, rfl⟩
        · exact ⟨.node none .nil .nil .nil .nil .nil y .nil .nil, fun R k => e R fun y => k (.node none .nil .nil .nil .nil .nil y .nil .nil), rfl, fun z hz => by cases z <;> first | rfl | exact absurd rfl hz, rfl⟩
        · exact ⟨.node none .nil .nil .nil .nil .nil .nil y .nil, fun R k => e R fun y => k (.node none .nil .nil .nil .nil .nil .nil y .nil), rfl, fun z hz => by cases z <;> first | rfl | exact absurd rfl hz, rfl⟩
        · exact ⟨.node none .nil .nil .nil .nil .nil .nil .nil y, fun R k => e R fun y => k (.node none .nil .nil .nil .nil .nil .nil .nil y), rfl, fun z hz => by cases z <;> first | rfl | exact absurd rfl hz, rfl⟩
      | node w a b c d e f g h =>
        cases x
        · exact ⟨.node w y b c d e f g h, fun R k => h1 R fun y => k (.node w y b c d e f g h), rfl, fun z hz => by cases z <;> first | rfl | exact absurd rfl hz, rfl⟩
        · exact ⟨.node w a y c d e f g h, fun R k => h1 R fun y => k (.node w a y c d e f g h), rfl, fun z hz => by cases z <;> first | rfl | exact absurd rfl hz, rfl⟩
        · exact ⟨.node w a b y d e f g h, fun R k => h1 R fun y => k (.node w a b y d e f g h), rfl, fun z hz => by cases z <;> first | rfl | exact absurd rfl hz, rfl⟩
        · exact ⟨.node w a b c y e f g h, fun R k => h1 R fun y => k (.node w a b c y e f g h), rfl, fun z hz => by cases z <;> first | rfl | exact absurd rfl hz, rfl⟩
        · exact ⟨.node w a b c d y f g h, fun R k => h1 R fun y => k (.node w a b c d y f g h), rfl, fun z hz => by cases z <;> first | rfl | exact absurd rfl hz, rfl⟩
        · exact ⟨.node w a b c d e y g h, fun R k => h1 R fun y => k (.node w a b c d e y g h), rfl, fun z hz => by cases z <;> first | rfl | exact absurd rfl hz, rfl⟩
        · exact ⟨.node w a b c d e f y h, fun R k => h1 R fun y => k (.node w a b c d e f y h), rfl, fun z hz => by cases z <;> first | rfl | exact absurd rfl hz, rfl⟩
        · exact ⟨.node w a b c d e f g y, fun R k => h1 R fun y => k (.node w a b c d e f g y), rfl, fun z hz => by cases z <;> first | rfl | exact absurd rfl hz, rfl⟩
    obtain ⟨t', k1, k2, k3, k4⟩ := key
    refine ⟨t', k1, by rw [T8.get_s, k2, h2], fun q hq => ?_⟩
    cases q with
    | nil => rw [T8.get_z, T8.get_z, k4]
    | cons z q =>
      rw [T8.get_s, T8.get_s]
      by_cases hz : z = x
      · subst hz
        rw [k2, h3 q (fun e => hq (by rw [e]))]
      · rw [k3 z hz]
end
def d8 (n : Nat) : D8 :=
  match n with
  | 0 => .a | 1 => .b | 2 => .c | 3 => .d | 4 => .e | 5 => .f | 6 => .g | _ => .h
def d8v : D8 → Nat
  | .a => 0 | .b => 1 | .c => 2 | .d => 3 | .e => 4 | .f => 5 | .g => 6 | .h => 7
theorem d8_v (n : Nat) (h : n < 8) : d8v (d8 n) = n := by
  match n, h with
  | 0, _ => rfl | 1, _ => rfl | 2, _ => rfl | 3, _ => rfl | 4, _ => rfl | 5, _ => rfl | 6, _ => rfl | 7, _ => rfl
  | n + 8, h => omega
def digF : Nat → Nat → List D8
  | 0, _ => []
  | f + 1, n => match n with
    | 0 => []
    | m + 1 => d8 ((m + 1) % 8) :: digF f ((m + 1) / 8)
def path (n : Nat) : List D8 := digF n n
def pathV : List D8 → Nat
  | [] => 0
  | d :: p => d8v d + 8 * pathV p
theorem digF_v : ∀ (f n : Nat), n ≤ f → pathV (digF f n) = n
  | 0, n, h => by have : n = 0 := by omega
                  subst this; rfl
  | f + 1, 0, _ => rfl
  | f + 1, m + 1, h => by
    simp only [digF, pathV]
    rw [digF_v f _ (by omega), d8_v _ (by omega)]
    omega
theorem path_inj {n m : Nat} (h : path n = path m) : n = m := by
  have a := digF_v n n (Nat.le_refl _)
  have b := digF_v m m (Nat.le_refl _)
  unfold path at h
  rw [h] at a
  omega
abbrev XE := T8 V
noncomputable def XE.get (E : XE) (t : Nat) : V := Option.rec (motive := fun _ => V) .und (fun v => v) (T8.get (path t) E)
noncomputable def XE.put {R : Type} (N : Nat) (d : Option Tmp) (v : V) (E : XE) (k : XE → R) : R :=
  Option.rec (motive := fun _ => R) (k E) (fun t => Bool.rec (motive := fun _ => R) (k E) (T8.upd (some v) (path t) E k) (Nat.blt t N)) d
def Same (e : Env) (E : XE) : Prop := ∀ t, Env.get e t = XE.get E t
theorem XE.put_spec (N : Nat) (d : Option Tmp) (v : V) (E : XE) : ∃ E', (∀ (R : Type) (k : XE → R), XE.put N d v E k = k E') ∧ ∀ e, Same e E → Same (Env.put N d v e) E' := by
  cases d with
  | none => exact ⟨E, fun _ _ => rfl, fun e h => h⟩
  | some t =>
    by_cases ht : t < N
    · obtain ⟨E', h1, h2, h3⟩ := T8.upd_spec (some v) (path t) E
      refine ⟨E', fun R k => ?_, fun e h u => ?_⟩
      · have hb : Nat.blt t N = true := by rw [Nat.blt_eq]; exact ht
        show Bool.rec (motive := fun _ => R) (k E) (T8.upd (some v) (path t) E k) (Nat.blt t N) = k E'
        rw [hb]; exact h1 R k
      · simp only [Env.put, if_pos ht, Env.get]
        by_cases hu : u = t
        · subst hu; rw [if_pos rfl]; unfold XE.get; rw [h2]
        · rw [if_neg hu, h u]; unfold XE.get; rw [h3 _ fun e => hu (path_inj e)]
    · refine ⟨E, fun R k => ?_, fun e h => ?_⟩
      · have hb : Nat.blt t N = false := by rw [Bool.eq_false_iff]; intro h; rw [Nat.blt_eq] at h; exact ht h
        show Bool.rec (motive := fun _ => R) (k E) (T8.upd (some v) (path t) E k) (Nat.blt t N) = k E
        rw [hb]
      · simp only [Env.put, if_neg ht]; exact h
noncomputable def xopnd (E : XE) : Operand → V
  | .tmp t => XE.get E t
  | .const v => cst v
  | .global _ => .und
  | .func f => .fn (.func f) [] []
theorem xopnd_eq {e : Env} {E : XE} (h : Same e E) : xopnd E = opnd e := by
  funext x
  cases x with
  | tmp t => exact (h t).symm
  | _ => rfl
structure HT where
  lo : Nat
  next : Nat
  tr : T8 AO
noncomputable def HT.get (H : HT) (n : Nat) : Option AO := T8.get (path n) H.tr
noncomputable def HT.ah (H : HT) : AH := ⟨H.next, fun n => T8.get (path n) H.tr⟩
noncomputable def HT.put {R : Type} (H : HT) (n : Nat) (o : AO) (k : HT → R) : R :=
  HT.rec (fun lo next tr => fNat (bif Nat.ble lo n then lo else n) fun lo => T8.upd (some o) (path n) tr fun tr => k ⟨lo, next, tr⟩) H
noncomputable def HT.kill {R : Type} (H : HT) (n : Nat) (k : HT → R) : R :=
  HT.rec (fun lo next tr => fNat (bif Nat.ble lo n then lo else n) fun lo => T8.upd none (path n) tr fun tr => k ⟨lo, next, tr⟩) H
noncomputable def HT.make {R : Type} (H : HT) (o : AO) (k : Nat → HT → R) : R :=
  HT.rec (fun lo next tr => fNat (next + 1) fun next' => T8.upd (some o) (path next) tr fun tr => k next ⟨lo, next', tr⟩) H
def HT0 : HT := ⟨0, 0, .nil⟩
def HT.Own (H : HT) : Prop := ∀ n o, H.get n = some o → o.isOwn = true
structure HT.ext (H H' : HT) : Prop where
  lo : H'.lo ≤ H.lo
  next : H.next ≤ H'.next
  same : ∀ n, n < H'.lo → n < H.next → H'.get n = H.get n
  own : H.Own → H'.Own
theorem HT.ext.refl (H : HT) : HT.ext H H := ⟨Nat.le_refl _, Nat.le_refl _, fun _ _ _ => rfl, id⟩
theorem HT.ext.trans {H H' H'' : HT} (a : HT.ext H H') (b : HT.ext H' H'') : HT.ext H H'' :=
  ⟨Nat.le_trans b.lo a.lo, Nat.le_trans a.next b.next, fun n h1 h2 => by
    have l := b.lo; have x := a.next
    rw [b.same n h1 (by omega), a.same n (by omega) h2], fun h => b.own (a.own h)⟩
theorem lo_min (lo n : Nat) : (bif Nat.ble lo n then lo else n) ≤ lo ∧ (bif Nat.ble lo n then lo else n) ≤ n := by
  cases h : Nat.ble lo n with
  | true => have := Nat.le_of_ble_eq_true h; simp only [cond_true]; omega
  | false => have : ¬ lo ≤ n := fun h' => by rw [Nat.ble_eq_true_of_le h'] at h; cases h
             simp only [cond_false]; omega
theorem own_upd {t t' : T8 AO} {n : Nat} {o : Option AO} (h2 : T8.get (path n) t' = o) (h3 : ∀ q, q ≠ path n → T8.get q t' = T8.get q t) (ho : ∀ x, o = some x → x.isOwn = true) (hw : ∀ m x, T8.get (path m) t = some x → x.isOwn = true) :
    ∀ m x, T8.get (path m) t' = some x → x.isOwn = true := by
  intro m x hx
  by_cases hm : m = n
  · subst hm
    rw [h2] at hx
    exact ho x hx
  · rw [h3 _ fun e => hm (path_inj e)] at hx
    exact hw m x hx
theorem HT.put_spec (H : HT) (n : Nat) (o : AO) (ho : o.isOwn = true) : ∃ H', (∀ (R : Type) (k : HT → R), H.put n o k = k H') ∧ H'.ah = H.ah.put n o ∧ HT.ext H H' := by
  obtain ⟨lo, next, tr⟩ := H
  obtain ⟨t', h1, h2, h3⟩ := T8.upd_spec (some o) (path n) tr
  refine ⟨⟨bif Nat.ble lo n then lo else n, next, t'⟩, fun R k => ?_, ?_, (lo_min lo n).1, Nat.le_refl _, fun m hm _ => ?_, fun hw => own_upd h2 h3 (fun x hx => by cases hx; exact ho) hw⟩
  · exact (fNat_eq (bif Nat.ble lo n then lo else n) (fun lo => T8.upd (some o) (path n) tr fun tr => k ⟨lo, next, tr⟩)).trans (h1 R fun tr => k ⟨_, next, tr⟩)
  · unfold HT.ah AH.put
    simp only [AH.mk.injEq, true_and]
    funext m
    by_cases hm : m = n
    · subst hm; rw [if_pos rfl, h2]
    · rw [if_neg hm, h3 _ fun e => hm (path_inj e)]
  · have := (lo_min lo n).2
    have hne : m ≠ n := by
      have hm : m < (bif Nat.ble lo n then lo else n) := hm
      omega
    exact h3 _ fun e => hne (path_inj e)
theorem HT.kill_spec (H : HT) (n : Nat) : ∃ H', (∀ (R : Type) (k : HT → R), H.kill n k = k H') ∧ H'.ah = H.ah.kill n ∧ HT.ext H H' := by
  obtain ⟨lo, next, tr⟩ := H
  obtain ⟨t', h1, h2, h3⟩ := T8.upd_spec none (path n) tr
  refine ⟨⟨bif Nat.ble lo n then lo else n, next, t'⟩, fun R k => ?_, ?_, (lo_min lo n).1, Nat.le_refl _, fun m hm _ => ?_, fun hw => own_upd h2 h3 (fun x hx => by cases hx) hw⟩
  · exact (fNat_eq (bif Nat.ble lo n then lo else n) (fun lo => T8.upd none (path n) tr fun tr => k ⟨lo, next, tr⟩)).trans (h1 R fun tr => k ⟨_, next, tr⟩)
  · unfold HT.ah AH.kill
    simp only [AH.mk.injEq, true_and]
    funext m
    by_cases hm : m = n
    · subst hm; rw [if_pos rfl, h2]
    · rw [if_neg hm, h3 _ fun e => hm (path_inj e)]
  · have := (lo_min lo n).2
    have hne : m ≠ n := by
      have hm : m < (bif Nat.ble lo n then lo else n) := hm
      omega
    exact h3 _ fun e => hne (path_inj e)
theorem HT.make_spec (H : HT) (o : AO) (ho : o.isOwn = true) : ∃ H', (∀ (R : Type) (k : Nat → HT → R), H.make o k = k H.next H') ∧ H'.ah = H.ah.make o ∧ HT.ext H H' := by
  obtain ⟨lo, next, tr⟩ := H
  obtain ⟨t', h1, h2, h3⟩ := T8.upd_spec (some o) (path next) tr
  refine ⟨⟨lo, next + 1, t'⟩, fun R k => ?_, ?_, Nat.le_refl _, Nat.le_succ _, fun m _ hm => ?_, fun hw => own_upd h2 h3 (fun x hx => by cases hx; exact ho) hw⟩
  · exact (fNat_eq (next + 1) (fun next' => T8.upd (some o) (path next) tr fun tr => k next ⟨lo, next', tr⟩)).trans (h1 R fun tr => k next ⟨lo, next + 1, tr⟩)
  · unfold HT.ah AH.make
    simp only [AH.mk.injEq, true_and]
    funext m
    by_cases hm : m = next
    · subst hm; rw [if_pos rfl, h2]
    · rw [if_neg hm, h3 _ fun e => hm (path_inj e)]
  · have hne : m ≠ next := by
      have hm : m < next := hm
      omega
    exact h3 _ fun e => hne (path_inj e)
end Go.Ab
namespace Go.Ab
open Go Go.RowKit
section
variable {R : Type} (P : Program)
def Did (H : HT) (a : Option (V × AH)) (k : V → HT → Option R) (r : R) : Prop := ∃ v H', a = some (v, H'.ah) ∧ HT.ext H H' ∧ k v H' = some r
theorem bif_some {b : Bool} {x : Option R} {r : R} (h : (bif b then x else none) = some r) : b = true ∧ x = some r := by
  cases b with
  | false => cases h
  | true => exact ⟨rfl, h⟩
noncomputable def xNew (H : HT) (t : TypeId) (v : V) (k : V → HT → Option R) : Option R :=
  bif xSh P 4 v t then H.make (.cells true (.one t) v) fun n H => k (.ptr (some ⟨n, .one t, []⟩)) H else none
theorem xNew_some {H : HT} {t : TypeId} {v : V} {k : V → HT → Option R} {r : R} (h : xNew P H t v k = some r) : Did H (aNew P H.ah t v) k r := by
  obtain ⟨hs, h⟩ := bif_some h
  have hs := xSh_ok P 4 v t hs
  obtain ⟨H', h1, h2, h3⟩ := H.make_spec (.cells true (.one t) v) rfl
  rw [h1] at h
  exact ⟨_, H', by unfold aNew; rw [hs, if_pos rfl, h2]; rfl, h3, h⟩
noncomputable def xAlloc (H : HT) (t : TypeId) (k : V → HT → Option R) : Option R :=
  match zeroV P t with
  | some z => xNew P H t z k
  | none => none
theorem xAlloc_some {H : HT} {t : TypeId} {k : V → HT → Option R} {r : R} (h : xAlloc P H t k = some r) : Did H (aAlloc P H.ah t) k r := by
  unfold xAlloc at h
  unfold aAlloc
  split at h
  · rename_i z hz; rw [hz]; exact xNew_some P h
  · cases h
noncomputable def xBuildSlice (H : HT) (t : TypeId) (len : Nat) (parts : List (Nat × V)) (k : V → HT → Option R) : Option R :=
  match ul P t with
  | some (.slice e) => match zeroV P e with
    | some z => bif decide (P.cellsOf e ≠ 0 ∧ len * P.cellsOf e ≤ 16777216) then match putParts P (fun _ => some e) (List.replicate len z) parts with
      | some l => fSpine l fun l => H.make (.cells true (.row e) (.agg l)) fun n H => k (.slc (some (⟨n, .row e, []⟩, 0)) len) H
      | none => none
      else none
    | none => none
  | _ => none
theorem xBuildSlice_some {H : HT} {t : TypeId} {len : Nat} {ps : List (Nat × V)} {k : V → HT → Option R} {r : R} (h : xBuildSlice P H t len ps k = some r) : Did H (aBuildSlice P H.ah t len ps) k r := by
  unfold xBuildSlice at h
  split at h
  · rename_i e he
    split at h
    · rename_i z hz
      obtain ⟨hc, h⟩ := bif_some h
      split at h
      · rename_i l hl
        rw [fSpine_eq] at h
        obtain ⟨H', h1, h2, h3⟩ := H.make_spec (.cells true (.row e) (.agg l)) rfl
        rw [h1] at h
        exact ⟨_, H', by unfold aBuildSlice; simp only [he, hz]; rw [if_pos (of_decide_eq_true hc)]; simp only [hl, h2]; rfl, h3, h⟩
      · cases h
    · cases h
  · cases h
noncomputable def xStore (H : HT) (a x : V) (t : TypeId) (k : V → HT → Option R) : Option R :=
  match a with
  | .ptr (some a) => match H.get a.n with
    | some (.cells true ty v) => bif decide (ty = a.ty) then match layB P ty a.p with
        | some (_, u) => bif xSh P 4 x u then fPut x (fun w => Nat.beq u t || (hasShape P x t && hasShape P w t)) a.p v fun v' => H.put a.n (.cells true ty v') (k hole) else none
        | none => none
      else none
    | _ => none
  | _ => none
theorem beq_dec (u t : Nat) : Nat.beq u t = decide (u = t) := by
  cases h : Nat.beq u t with
  | true => rw [Nat.eq_of_beq_eq_true h]; simp
  | false => have : ¬ u = t := Nat.ne_of_beq_eq_false h
             simp [this]
theorem xStore_some {H : HT} {a x : V} {t : TypeId} {k : V → HT → Option R} {r : R} (h : xStore P H a x t k = some r) : Did H (aStoreV P H.ah t a x) k r := by
  unfold xStore at h
  split at h
  · rename_i a
    split at h
    · rename_i ty v hm
      obtain ⟨hty, h⟩ := bif_some h
      split at h
      · rename_i o u hl
        obtain ⟨hs, h⟩ := bif_some h
        have hs := xSh_ok P 4 _ _ hs
        obtain ⟨w, v', g1, g2, g3, g4⟩ := fPut_some _ _ _ _ h
        obtain ⟨H', h1, h2, h3⟩ := H.put_spec a.n (.cells true ty v') rfl
        rw [h1] at g4
        refine ⟨hole, H', ?_, h3, g4⟩
        have hm' : H.ah.m a.n = some (.cells true ty v) := hm
        simp only [aStoreV, aStore, hm', if_pos (of_decide_eq_true hty), hl, g1, g3]
        rw [beq_dec] at g2
        rw [hs, g2]
        simp only [Bool.and_self, if_true, quietly, h2]
      · cases h
    · cases h
  · cases h
noncomputable def xMakeSlice (H : HT) (t : TypeId) (l c : V) (k : V → HT → Option R) : Option R :=
  match l, c with
  | .int _ n, .int _ n' => match ul P t with
    | some (.slice e) => match zeroV P e with
      | some z => bif decide (n = n' ∧ 0 ≤ n ∧ 1 ≤ P.bytesOf e ∧ (P.bytesOf e : Int) * n ≤ 140737488355328 ∧ P.cellsOf e ≠ 0) then
          fNat n.toNat fun m => fSpine (List.replicate m z) fun l => H.make (.cells true (.row e) (.agg l)) fun b H => k (.slc (some (⟨b, .row e, []⟩, 0)) m) H else none
      | none => none
    | _ => none
  | _, _ => none
theorem xMakeSlice_some {H : HT} {t : TypeId} {l c : V} {k : V → HT → Option R} {r : R} (h : xMakeSlice P H t l c k = some r) : Did H (aMakeSlice P H.ah t l c) k r := by
  unfold xMakeSlice at h
  split at h
  · rename_i k1 n k2 n'
    split at h
    · rename_i e he
      split at h
      · rename_i z hz
        obtain ⟨hc, h⟩ := bif_some h
        rw [fNat_eq, fSpine_eq] at h
        obtain ⟨H', h1, h2, h3⟩ := H.make_spec (.cells true (.row e) (.agg (List.replicate n.toNat z))) rfl
        rw [h1] at h
        exact ⟨_, H', by unfold aMakeSlice; simp only [he, hz]; rw [if_pos (of_decide_eq_true hc), h2]; rfl, h3, h⟩
      · cases h
    · cases h
  · cases h
noncomputable def xOwnRow (H : HT) (e : TypeId) (s : V) (k : List V → Nat → HT → Option R) : Option R :=
  match s with
  | .slc none _ => k [] 0 H
  | .slc (some (a, i)) len => match H.get a.n with
    | some (.cells true ty (.agg l)) => bif Nat.beq i 0 && lenIs l len then
        (bif decide (ty = a.ty ∧ ty = .row e ∧ a.p = []) then H.kill a.n fun H => k l len H else none)
      else (bif decide (ty = a.ty ∧ ty = .row e ∧ a.p = [] ∧ i + len ≤ l.length) then H.kill a.n fun H => k ((l.drop i).take len) ((l.drop i).take len).length H else none)
    | _ => none
  | _ => none
theorem xOwnRow_some {H : HT} {e : TypeId} {s : V} {k : List V → Nat → HT → Option R} {r : R} (h : xOwnRow H e s k = some r) : ∃ l H', aOwnRow H.ah e s = some (l, H'.ah) ∧ HT.ext H H' ∧ k l l.length H' = some r := by
  unfold xOwnRow at h
  split at h
  · exact ⟨[], H, rfl, HT.ext.refl _, h⟩
  · rename_i a i len
    split at h
    · rename_i ty l hm
      have hm' : H.ah.m a.n = some (.cells true ty (.agg l)) := hm
      cases hb : (Nat.beq i 0 && lenIs l len) with
      | true =>
        rw [hb] at h
        simp only [cond_true] at h
        rw [Bool.and_eq_true] at hb
        have hi := Nat.eq_of_beq_eq_true hb.1
        have hl := lenIs_ok _ _ hb.2
        subst hi
        obtain ⟨hc, h⟩ := bif_some h
        obtain ⟨c1, c2, c3⟩ := of_decide_eq_true hc
        obtain ⟨H', h1, h2, h3⟩ := H.kill_spec a.n
        rw [h1] at h
        refine ⟨l, H', ?_, h3, by rw [hl]; exact h⟩
        simp only [aOwnRow, hm']
        rw [if_pos ⟨c1, c2, c3, by omega⟩, h2, List.drop_zero, ← hl, List.take_length]
      | false =>
        rw [hb] at h
        simp only [cond_false] at h
        obtain ⟨hc, h⟩ := bif_some h
        obtain ⟨H', h1, h2, h3⟩ := H.kill_spec a.n
        rw [h1] at h
        exact ⟨_, H', by simp only [aOwnRow, hm']; rw [if_pos (of_decide_eq_true hc), h2], h3, h⟩
    · cases h
  · cases h
noncomputable def xAppend (H : HT) (e : TypeId) (s x : V) (k : V → HT → Option R) : Option R :=
  match aElems P H.ah e x with
  | some [] => match s with
    | .slc none n => k (.slc none n) H
    | .slc (some a) n => k (.slc (some a) n) H
    | _ => none
  | some (w :: ws) => xOwnRow H e s fun l c H => bif decide (1 ≤ P.bytesOf e ∧ (c + (w :: ws).length) * P.bytesOf e ≤ 140737488355328 ∧ (zeroV P e).isSome) then
      fNat (c + (w :: ws).length) fun m => fApp l (w :: ws) fun l => H.make (.cells true (.row e) (.agg l)) fun b H => k (.slc (some (⟨b, .row e, []⟩, 0)) m) H else none
  | none => none
theorem xAppend_some {H : HT} {e : TypeId} {s x : V} {k : V → HT → Option R} {r : R} (h : xAppend P H e s x k = some r) : Did H (aAppend P H.ah e s x) k r := by
  unfold xAppend at h
  split at h
  · rename_i he
    split at h
    · exact ⟨_, H, by simp only [aAppend, he], HT.ext.refl _, h⟩
    · exact ⟨_, H, by simp only [aAppend, he], HT.ext.refl _, h⟩
    · cases h
  · rename_i w ws he
    obtain ⟨l, H1, g1, g2, h⟩ := xOwnRow_some h
    obtain ⟨hc, h⟩ := bif_some h
    rw [fNat_eq, fApp_eq] at h
    obtain ⟨H', h1, h2, h3⟩ := H1.make_spec (.cells true (.row e) (.agg (l ++ w :: ws))) rfl
    rw [h1] at h
    exact ⟨_, H', by simp only [aAppend, he, g1]; rw [if_pos (of_decide_eq_true hc), h2]; rfl, g2.trans h3, h⟩
  · cases h
noncomputable def xCopy (H : HT) (e : TypeId) (d x : V) (k : V → HT → Option R) : Option R :=
  match aElems P H.ah e x, d with
  | some _, .slc none _ => k (.int .i64 0) H
  | some es, .slc (some (a, s)) len => match H.get a.n with
    | some (.cells true ty v) => match rowAt P ty a.p, getV v a.p with
      | some (_, e'), some (.agg l) => bif decide (ty = a.ty ∧ e = e' ∧ s + len ≤ l.length) then
          fNat (min es.length len) fun m => fSpine (l.take s ++ es.take m ++ l.drop (s + m)) fun l => fPut (.agg l) (fun _ => true) a.p v fun v' => H.put a.n (.cells true ty v') fun H => k (.int .i64 (m : Nat)) H
        else none
      | _, _ => none
    | _ => none
  | _, _ => none
theorem xCopy_some {H : HT} {e : TypeId} {d x : V} {k : V → HT → Option R} {r : R} (h : xCopy P H e d x k = some r) : Did H (aCopy P H.ah e d x) k r := by
  unfold xCopy at h
  split at h
  · rename_i es len hes
    exact ⟨_, H, by simp only [aCopy, hes], HT.ext.refl _, h⟩
  · rename_i es a s len hes
    split at h
    · rename_i ty v hm
      split at h
      · rename_i o e' l hr hg
        obtain ⟨hc, h⟩ := bif_some h
        rw [fNat_eq, fSpine_eq] at h
        obtain ⟨w, v', g1, g2, g3, g4⟩ := fPut_some _ _ _ _ h
        obtain ⟨H', h1, h2, h3⟩ := H.put_spec a.n (.cells true ty v') rfl
        rw [h1] at g4
        have hm' : H.ah.m a.n = some (.cells true ty v) := hm
        exact ⟨_, H', by simp only [aCopy, hes, hm', hr, hg]; rw [if_pos (of_decide_eq_true hc), g3, h2], h3, g4⟩
      · cases h
    · cases h
  · cases h
noncomputable def xClear (H : HT) (e : TypeId) (d : V) (k : V → HT → Option R) : Option R :=
  match d with
  | .slc (some (a, s)) len => match H.get a.n with
    | some (.cells true ty v) => match rowAt P ty a.p, getV v a.p, zeroV P e with
      | some (_, e'), some (.agg l), some z => bif decide (ty = a.ty ∧ e = e' ∧ s + len ≤ l.length ∧ P.cellsOf e ≠ 0) then
          fSpine (l.take s ++ List.replicate len z ++ l.drop (s + len)) fun l => fPut (.agg l) (fun _ => true) a.p v fun v' => H.put a.n (.cells true ty v') (k hole)
        else none
      | _, _, _ => none
    | _ => none
  | _ => none
theorem xClear_some {H : HT} {e : TypeId} {d : V} {k : V → HT → Option R} {r : R} (h : xClear P H e d k = some r) : Did H (quietly (aClear P H.ah e d)) k r := by
  unfold xClear at h
  split at h
  · rename_i a s len
    split at h
    · rename_i ty v hm
      split at h
      · rename_i o e' l z hr hg hz
        obtain ⟨hc, h⟩ := bif_some h
        rw [fSpine_eq] at h
        obtain ⟨w, v', g1, g2, g3, g4⟩ := fPut_some _ _ _ _ h
        obtain ⟨H', h1, h2, h3⟩ := H.put_spec a.n (.cells true ty v') rfl
        rw [h1] at g4
        have hm' : H.ah.m a.n = some (.cells true ty v) := hm
        exact ⟨_, H', by simp only [aClear, hm', hr, hg, hz]; rw [if_pos (of_decide_eq_true hc), g3, h2]; rfl, h3, g4⟩
      · cases h
    · cases h
  · cases h
noncomputable def xMapSet (H : HT) (t : TypeId) (m x v : V) (k : V → HT → Option R) : Option R :=
  match ul P t with
  | some (.map kt et) => bif plainT P 20 kt && hasShape P x kt && hasShape P v et then match m with
    | .map (some n) => match H.get n with
      | some (.mp kt' et' es) => bif decide (kt = kt' ∧ et = et') then match findX x es with
        | some (some (i, _)) => fSpine (es.set i (x, v)) fun es => H.put n (.mp kt et es) (k hole)
        | some none => fApp es [(x, v)] fun es => H.put n (.mp kt et es) (k hole)
        | none => none
        else none
      | _ => none
    | _ => none
    else none
  | _ => none
theorem xMapSet_some {H : HT} {t : TypeId} {m x v : V} {k : V → HT → Option R} {r : R} (h : xMapSet P H t m x v k = some r) : Did H (quietly (aMapSet P H.ah t m x v)) k r := by
  unfold xMapSet at h
  split at h
  · rename_i kt et hu
    obtain ⟨hc, h⟩ := bif_some h
    split at h
    · rename_i n _
      split at h
      · rename_i kt' et' es hm
        obtain ⟨he, h⟩ := bif_some h
        have hm' : H.ah.m n = some (.mp kt' et' es) := hm
        split at h
        · rename_i i w hf
          have hf := findX_ok hf
          rw [fSpine_eq] at h
          obtain ⟨H', h1, h2, h3⟩ := H.put_spec n (.mp kt et (es.set i (x, v))) rfl
          rw [h1] at h
          exact ⟨hole, H', by simp only [aMapSet, hu, hm', hf]; rw [if_pos hc, if_pos (of_decide_eq_true he), ← h2]; rfl, h3, h⟩
        · rename_i hf
          have hf := findX_ok hf
          rw [fApp_eq] at h
          obtain ⟨H', h1, h2, h3⟩ := H.put_spec n (.mp kt et (es ++ [(x, v)])) rfl
          rw [h1] at h
          exact ⟨hole, H', by simp only [aMapSet, hu, hm', hf]; rw [if_pos hc, if_pos (of_decide_eq_true he), ← h2]; rfl, h3, h⟩
        · cases h
      · cases h
    · cases h
  · cases h
noncomputable def xMapDel (H : HT) (t : TypeId) (m x : V) (k : V → HT → Option R) : Option R :=
  match ul P t with
  | some (.map kt _) => bif plainT P 20 kt && hasShape P x kt then match m with
    | .map (some n) => match H.get n with
      | some (.mp kt' et es) => bif decide (kt = kt') then match findX x es with
        | some (some (i, _)) => fSpine (es.eraseIdx i) fun es => H.put n (.mp kt et es) (k hole)
        | some none => k hole H
        | none => none
        else none
      | _ => none
    | _ => none
    else none
  | _ => none
theorem xMapDel_some {H : HT} {t : TypeId} {m x : V} {k : V → HT → Option R} {r : R} (h : xMapDel P H t m x k = some r) : Did H (quietly (aMapDel P H.ah t m x)) k r := by
  unfold xMapDel at h
  split at h
  · rename_i kt et0 hu
    obtain ⟨hc, h⟩ := bif_some h
    split at h
    · rename_i n _
      split at h
      · rename_i kt' et es hm
        obtain ⟨he, h⟩ := bif_some h
        have hm' : H.ah.m n = some (.mp kt' et es) := hm
        split at h
        · rename_i i w hf
          have hf := findX_ok hf
          rw [fSpine_eq] at h
          obtain ⟨H', h1, h2, h3⟩ := H.put_spec n (.mp kt et (es.eraseIdx i)) rfl
          rw [h1] at h
          exact ⟨hole, H', by simp only [aMapDel, hu, hm', hf]; rw [if_pos hc, if_pos (of_decide_eq_true he), ← h2]; rfl, h3, h⟩
        · rename_i hf
          have hf := findX_ok hf
          exact ⟨hole, H, by simp only [aMapDel, hu, hm', hf]; rw [if_pos hc, if_pos (of_decide_eq_true he)]; rfl, HT.ext.refl _, h⟩
        · cases h
      · cases h
    · cases h
  · cases h
noncomputable def xMakeMap (H : HT) (t : TypeId) (k : V → HT → Option R) : Option R :=
  match ul P t with
  | some (.map kt et) => H.make (.mp kt et []) fun n H => k (.map (some n)) H
  | _ => none
theorem xMakeMap_some {H : HT} {t : TypeId} {k : V → HT → Option R} {r : R} (h : xMakeMap P H t k = some r) : Did H (aMakeMap P H.ah t) k r := by
  unfold xMakeMap at h
  split at h
  · rename_i kt et hu
    obtain ⟨H', h1, h2, h3⟩ := H.make_spec (.mp kt et []) rfl
    rw [h1] at h
    exact ⟨_, H', by simp only [aMakeMap, hu, h2]; rfl, h3, h⟩
  · cases h
noncomputable def xStill (H : HT) (a : Option (V × AH)) (k : V → HT → Option R) : Option R :=
  match a with
  | some (v, _) => fV v fun v => k v H
  | none => none
noncomputable def xBuiltin (H : HT) (b : Builtin) (ts : List TypeId) (xs : List V) (k : V → HT → Option R) : Option R :=
  match b, ts, xs with
  | .append, [t, xt], [s, x] => match ul P t with
    | some (.slice e) => bif notInt P xt && (ul P e).isSome then xAppend P H e s x k else none
    | _ => none
  | .copy, [t, _], [d, x] => match ul P t with
    | some (.slice e) => bif (ul P e).isSome then xCopy P H e d x k else none
    | _ => none
  | .delete, [t, _], [m, x] => xMapDel P H t m x k
  | .clear, [t], [d] => match ul P t with
    | some (.slice e) => xClear P H e d k
    | _ => none
  | .len, ts, xs => xStill H (aBuiltin P H.ah .len ts xs) k
  | .min, ts, xs => xStill H (aBuiltin P H.ah .min ts xs) k
  | .max, ts, xs => xStill H (aBuiltin P H.ah .max ts xs) k
  | _, _, _ => none
theorem xStill_some {H : HT} {a : Option (V × AH)} {k : V → HT → Option R} {r : R} (hq : ∀ v h', a = some (v, h') → h' = H.ah) (h : xStill H a k = some r) : Did H a k r := by
  unfold xStill at h
  split at h
  · rename_i v h'
    rw [fV_eq] at h
    exact ⟨v, H, by rw [hq v h' rfl], HT.ext.refl _, h⟩
  · cases h
theorem xBuiltin_some {H : HT} {b : Builtin} {ts : List TypeId} {xs : List V} {k : V → HT → Option R} {r : R} (h : xBuiltin P H b ts xs k = some r) : Did H (aBuiltin P H.ah b ts xs) k r := by
  have quiet : ∀ b, (b = .len ∨ b = .min ∨ b = .max) → ∀ v h', aBuiltin P H.ah b ts xs = some (v, h') → h' = H.ah := by
    intro b hb v h' hl
    unfold aBuiltin at hl
    rcases hb with rfl | rfl | rfl
    · split at hl <;> first | (cases hl; done) | skip
      all_goals (first
        | exact (still_some hl).2
        | (split at hl <;> exact (still_some hl).2)
        | simp_all)
    · split at hl <;> first | (cases hl; done) | skip
      all_goals (first
        | exact (still_some hl).2
        | simp_all)
    · split at hl <;> first | (cases hl; done) | skip
      all_goals (first
        | exact (still_some hl).2
        | simp_all)
  unfold xBuiltin at h
  split at h
  · rename_i t xt s x
    split at h
    · rename_i e hu
      obtain ⟨hc, h⟩ := bif_some h
      have := xAppend_some P h
      unfold aBuiltin
      simp only [hu]
      rw [if_pos hc]
      exact this
    · cases h
  · rename_i t _ d x
    split at h
    · rename_i e hu
      obtain ⟨hc, h⟩ := bif_some h
      have := xCopy_some P h
      unfold aBuiltin
      simp only [hu]
      rw [if_pos hc]
      exact this
    · cases h
  · exact xMapDel_some P h
  · split at h
    · rename_i e hu
      have := xClear_some P h
      unfold aBuiltin
      simp only [hu]
      exact this
    · cases h
  · exact xStill_some (quiet _ (.inl rfl)) h
  · exact xStill_some (quiet _ (.inr (.inl rfl))) h
  · exact xStill_some (quiet _ (.inr (.inr rfl))) h
  · cases h
noncomputable def xV (x : Option V) (H : HT) (k : V → HT → Option R) : Option R :=
  match x with
  | some v => fV v fun v => k v H
  | none => none
noncomputable def xN (x : Option V) (H : HT) (k : V → HT → Option R) : Option R :=
  match x with
  | some v => k v H
  | none => none
variable {P}
theorem xV_some {x : Option V} {H : HT} {k : V → HT → Option R} {r : R} (h : xV x H k = some r) : Did H (still x H.ah) k r := by
  cases x with
  | none => cases h
  | some v =>
    have h : fV v (fun v => k v H) = some r := h
    rw [fV_eq] at h
    exact ⟨v, H, rfl, HT.ext.refl _, h⟩
theorem xN_some {x : Option V} {H : HT} {k : V → HT → Option R} {r : R} (h : xN x H k = some r) : Did H (still x H.ah) k r := by
  cases x with
  | none => cases h
  | some v => exact ⟨v, H, rfl, HT.ext.refl _, h⟩
variable (P)
noncomputable def xPick (c a b : V) (H : HT) (k : V → HT → Option R) : Option R :=
  match c with
  | .bool true => k a H
  | .bool false => k b H
  | _ => none
noncomputable def xLoad (H : HT) (t : TypeId) (a : V) (k : V → HT → Option R) : Option R :=
  match a with
  | .ptr (some p) => match H.get p.n with
    | some (.cells _ ty v) => bif decide (ty = p.ty) then match layB P ty p.p with
      | some (_, u) => match getVf p.p v with
        | some w => bif Nat.beq u t || hasShape P w t then k w H else none
        | none => none
      | none => none
      else none
    | _ => none
  | _ => none
noncomputable def xIndex (t : TypeId) (x i : V) : Option V :=
  match x, i with
  | .str s, .int _ (.ofNat n) => (match ul P t with
    | some .string => (match nthO s n with
      | some b => some (.int .u8 b.toNat)
      | none => none)
    | _ => none)
  | x, i => aIndex P t x i
theorem xIndex_eq (t : TypeId) (x i : V) : xIndex P t x i = aIndex P t x i := by
  unfold xIndex
  split
  · rename_i s k n
    have e : aIndex P t (.str s) (.int k (.ofNat n)) = (match ul P t with
      | some .string => if (0 : Int) ≤ Int.ofNat n then (match s[(Int.ofNat n).toNat]? with
          | some b => some (.int .u8 b.toNat)
          | none => none)
        else none
      | _ => none) := rfl
    rw [e, nthO_eq, if_pos (by simp)]
    rfl
  · rfl
noncomputable def xLookup (H : HT) (t : TypeId) (m x : V) (c : Bool) (k : V → HT → Option R) : Option R :=
  match ul P t, m with
  | some (.map kt et), .map (some n) => bif plainT P 20 kt && hasShape P x kt then (match H.get n with
    | some (.mp kt' et' es) => bif decide (kt = kt' ∧ et = et') then (match findX x es with
      | some (some (_, v)) => k (if c then .tup [v, .bool true] else v) H
      | some none => (match zeroV P et with
        | some z => k (if c then .tup [z, .bool false] else z) H
        | none => none)
      | none => none) else none
    | _ => none) else none
  | _, _ => xN (aLookup P H.ah t m x c) H k
noncomputable def xNil (x : V) (H : HT) (k : V → HT → Option R) : Option R :=
  match aNil x H.ah with
  | some (v, _) => k v H
  | none => none
theorem xPick_some {c a b : V} {H : HT} {k : V → HT → Option R} {r : R} (h : xPick c a b H k = some r) : Did H (aPick c a b H.ah) k r := by
  unfold xPick at h
  split at h
  · exact ⟨_, H, rfl, HT.ext.refl _, h⟩
  · exact ⟨_, H, rfl, HT.ext.refl _, h⟩
  · cases h
theorem xLoad_some {H : HT} {t : TypeId} {a : V} {k : V → HT → Option R} {r : R} (h : xLoad P H t a k = some r) : Did H (aLoadV P H.ah t a) k r := by
  unfold xLoad at h
  split at h
  · rename_i p
    split at h
    · rename_i o ty v hm
      obtain ⟨hty, h⟩ := bif_some h
      split at h
      · rename_i off u hl
        rw [getVf_eq] at h
        split at h
        · rename_i w hg
          obtain ⟨hc, h⟩ := bif_some h
          have hm' : H.ah.m p.n = some (.cells o ty v) := hm
          refine ⟨w, H, ?_, HT.ext.refl _, h⟩
          simp only [aLoadV, aLoad, hm', hl, hg]
          rw [if_pos (of_decide_eq_true hty)]
          rw [Bool.or_eq_true] at hc
          by_cases hu : u = t
          · rw [if_pos hu]; rfl
          · rw [if_neg hu]
            rcases hc with hc | hc
            · exact absurd (Nat.eq_of_beq_eq_true hc) hu
            · rw [if_pos hc]; rfl
        · cases h
      · cases h
    · cases h
  · cases h
theorem xLookup_some {H : HT} {t : TypeId} {m x : V} {c : Bool} {k : V → HT → Option R} {r : R} (h : xLookup P H t m x c k = some r) : Did H (still (aLookup P H.ah t m x c) H.ah) k r := by
  unfold xLookup at h
  split at h
  · rename_i kt et n hu
    obtain ⟨hc, h⟩ := bif_some h
    split at h
    · rename_i kt' et' es hm
      obtain ⟨he, h⟩ := bif_some h
      have hm' : H.ah.m n = some (.mp kt' et' es) := hm
      split at h
      · rename_i i v hf
        have hf := findX_ok hf
        refine ⟨_, H, ?_, HT.ext.refl _, h⟩
        simp only [aLookup, hu, hm', hf]
        rw [if_pos hc, if_pos (of_decide_eq_true he)]; rfl
      · rename_i hf
        have hf := findX_ok hf
        split at h
        · rename_i z hz
          refine ⟨_, H, ?_, HT.ext.refl _, h⟩
          simp only [aLookup, hu, hm', hf, hz]
          rw [if_pos hc, if_pos (of_decide_eq_true he)]; rfl
        · cases h
      · cases h
    · cases h
  · exact xN_some h
theorem xNil_some {x : V} {H : HT} {k : V → HT → Option R} {r : R} (h : xNil x H k = some r) : Did H (aNil x H.ah) k r := by
  unfold xNil at h
  split at h
  · rename_i v h' ha
    have e : h' = H.ah := by unfold aNil at ha; split at ha <;> cases ha <;> rfl
    subst e
    rw [ha]
    exact ⟨v, H, rfl, HT.ext.refl _, h⟩
  · cases h
noncomputable def xop (ρ : Operand → V) (H : HT) (o : Op) (k : V → HT → Option R) : Option R :=
  match o with
  | .binOp op t x y _ => xV (aBin P op t (ρ x) (ρ y) (Region.isConst x || Region.isConst y)) H k
  | .load t a => xLoad P H t (ρ a) k
  | .store t a x => xStore P H (ρ a) (ρ x) t k
  | .fieldAddr s x f => xV (aFieldAddr P s (ρ x) f) H k
  | .indexAddr t x i => xV (aIndexAddr P t (ρ x) (ρ i)) H k
  | .index t x i => xV (xIndex P t (ρ x) (ρ i)) H k
  | .convert s d x => xV (aConv P H.ah s d (ρ x)) H k
  | .extract x i => xN (aExtract (ρ x) i) H k
  | .pick c a b => xPick (ρ c) (ρ a) (ρ b) H k
  | .nilCheck x => xNil (ρ x) H k
  | .alloc e => xAlloc P H e k
  | .box e x => xNew P H e (ρ x) k
  | .build t ps => xV (aBuild P t (ps.toList.map fun p => (p.1, ρ p.2))) H k
  | .buildSlice t n ps => xBuildSlice P H t n (ps.toList.map fun p => (p.1, ρ p.2)) k
  | .unOp op _ x => xV (aUn op (ρ x)) H k
  | .field t x f => xN (aField P t (ρ x) f) H k
  | .slice t x lo hi none => xV (aSlice P H.ah t (ρ x) (lo.map ρ) (hi.map ρ)) H k
  | .lookup t x y c => xLookup P H t (ρ x) (ρ y) c k
  | .makeInterface t x => xN (aIface P t (ρ x)) H k
  | .makeMap t none => xMakeMap P H t k
  | .makeSlice t l c => xMakeSlice P H t (ρ l) (ρ c) k
  | .mapUpdate t m x v => xMapSet P H t (ρ m) (ρ x) (ρ v) k
  | .insert t m x v => xMapSet P H t (ρ m) (ρ x) (ρ v) k
  | .call { callee := .builtin b, args := args, argTypes := ts } => xBuiltin P H b ts.toList (args.toList.map ρ) k
  | _ => none
theorem xop_some {ρ : Operand → V} {H : HT} {o : Op} {k : V → HT → Option R} {r : R} (h : xop P ρ H o k = some r) : Did H (aop P ρ H.ah o) k r := by
  unfold xop at h
  split at h
  all_goals first
    | exact xV_some h
    | (rw [xIndex_eq] at h; exact xV_some h)
    | exact xLookup_some P h
    | exact xN_some h
    | exact xLoad_some P h
    | exact xStore_some P h
    | exact xPick_some h
    | exact xNil_some h
    | exact xAlloc_some P h
    | exact xNew_some P h
    | exact xBuildSlice_some P h
    | exact xMakeMap_some P h
    | exact xMakeSlice_some P h
    | exact xMapSet_some P h
    | exact xBuiltin_some P h
    | cases h
end
end Go.Ab
namespace Go.Ab
open Go Go.RowKit
abbrev CallF := (R : Type) → FuncId → List V → HT → (AEnd → HT → Option R) → Option R
def CallOk (P : Program) (ex : CallF) : Prop := ∀ (R : Type) (f : FuncId) (args : List V) (H : HT) (K : AEnd → HT → Option R) (r : R), H.Own → ex R f args H K = some r →
  ∃ ae H', HT.ext H H' ∧ K ae H' = some r ∧ entersOk P f = true ∧ ACalls P f args H.ah fun ae' h' => ae' = ae ∧ h' = H'.ah
mutual
def sameV : V → V → Bool
  | .bool a, .bool b => a == b
  | .int k a, .int l b => decide (k = l) && decide (a = b)
  | .str a, .str b => a == b
  | .ptr a, .ptr b => decide (a = b)
  | .slc a m, .slc b n => decide (a = b) && decide (m = n)
  | .agg a, .agg b => sameVs a b
  | .map a, .map b => decide (a = b)
  | .ifc t a, .ifc u b => decide (t = u) && sameV a b
  | .nilIfc, .nilIfc => true
  | .nilFn, .nilFn => true
  | .tup a, .tup b => sameVs a b
  | _, _ => false
def sameVs : List V → List V → Bool
  | [], [] => true
  | a :: l, b :: m => sameV a b && sameVs l m
  | _, _ => false
end
mutual
theorem sameV_eq : ∀ (a b : V), sameV a b = true → a = b
  | .bool a, b, h => by cases b <;> simp_all [sameV]
  | .int k a, b, h => by cases b <;> simp_all [sameV]
  | .str a, b, h => by cases b <;> simp_all [sameV]
  | .ptr a, b, h => by cases b <;> simp_all [sameV]
  | .slc a m, b, h => by cases b <;> simp_all [sameV]
  | .agg a, b, h => by
    cases b <;> first | (simp [sameV] at h; done) | skip
    rename_i b
    rw [sameVs_eq a b (by simpa [sameV] using h)]
  | .map a, b, h => by cases b <;> simp_all [sameV]
  | .ifc t a, b, h => by
    cases b <;> first | (simp [sameV] at h; done) | skip
    rename_i u b
    simp only [sameV, Bool.and_eq_true, decide_eq_true_eq] at h
    rw [h.1, sameV_eq a b h.2]
  | .nilIfc, b, h => by cases b <;> simp_all [sameV]
  | .nilFn, b, h => by cases b <;> simp_all [sameV]
  | .tup a, b, h => by
    cases b <;> first | (simp [sameV] at h; done) | skip
    rename_i b
    rw [sameVs_eq a b (by simpa [sameV] using h)]
  | .fn _ _ _, b, h => by cases b <;> simp [sameV] at h
  | .und, b, h => by cases b <;> simp [sameV] at h
theorem sameVs_eq : ∀ (a b : List V), sameVs a b = true → a = b
  | [], b, h => by cases b <;> simp_all [sameVs]
  | a :: l, b, h => by
    cases b with
    | nil => simp [sameVs] at h
    | cons b m =>
      simp only [sameVs, Bool.and_eq_true] at h
      rw [sameV_eq a b h.1, sameVs_eq l m h.2]
end
section
variable (P : Program) (N : Nat)
variable {P}
variable (P)
noncomputable def xFun (E : XE) (f : Operand) (args : Array Operand) : Option (FuncId × List V) :=
  match xopnd E f with
  | .fn (.func k) first cap => some (k, first ++ (args.toList.map (xopnd E) ++ cap))
  | _ => none
noncomputable def xMeth (E : XE) (r : Operand) (name : String) (args : Array Operand) : Option (FuncId × List V) :=
  match xopnd E r with
  | .ifc t v => match aMethod P t name with
    | some k => some (k, v :: args.toList.map (xopnd E))
    | none => none
  | _ => none
variable {P}
theorem xFun_ok {E : XE} {e : Env} (hs : Same e E) {f : Operand} {args : Array Operand} {k : FuncId} {l : List V} {h : AH} {Q : AEnd → AH → Prop} (hf : xFun E f args = some (k, l)) (c : vcEnter P k l h Q) : vcCallV P (opnd e f) (args.toList.map (opnd e)) h Q := by
  unfold xFun at hf
  rw [xopnd_eq hs] at hf
  unfold vcCallV
  split at hf
  · rename_i heq; rw [heq]; cases hf; exact c
  · cases hf
theorem xMeth_ok {E : XE} {e : Env} (hs : Same e E) {r : Operand} {name : String} {args : Array Operand} {k : FuncId} {l : List V} {h : AH} {Q : AEnd → AH → Prop} (hf : xMeth P E r name args = some (k, l)) (c : vcEnter P k l h Q) : vcInvoke P (opnd e r) name (args.toList.map (opnd e)) h Q := by
  unfold xMeth at hf
  rw [xopnd_eq hs] at hf
  unfold vcInvoke
  split at hf
  · rename_i heq
    rw [heq]
    split at hf
    · rename_i hm; simp only [hm]; cases hf; exact c
    · cases hf
  · cases hf
variable (P)
noncomputable def exCall {R : Type} (ex : CallF) (c : Option (FuncId × List V)) (H : HT) (K : V → HT → Option R) (X : V → HT → Option R) : Option R :=
  match c with
  | some (k, l) => ex R k l H fun ae H => match ae with
    | .ret v => K v H
    | .panic v => X v H
  | none => none
noncomputable def exOp {R : Type} (ex : CallF) (op : Op) (E : XE) (H : HT) (K : V → HT → Option R) (X : V → HT → Option R) : Option R :=
  match op with
  | .call { callee := .value f, args := args, .. } => exCall ex (xFun E f args) H K X
  | .call { callee := .invoke r name, args := args, .. } => exCall ex (xMeth P E r name args) H K X
  | .panic x => match xopnd E x with
    | .ifc t v => X (.ifc t v) H
    | _ => none
  | .move x => K (xopnd E x) H
  | .assign x => K (xopnd E x) H
  | .makeFunc fn a b => K (.fn fn (a.toList.map (xopnd E)) (b.toList.map (xopnd E))) H
  | .range t x => match xopnd E x with
    | .str s => (match ul P t with
      | some .string => H.make (.sit s 0) fun n H => K (itV n) H
      | _ => none)
    | _ => none
  | .next x true => match xopnd E x with
    | .ptr (some ⟨n, _, []⟩) => (match H.get n with
      | some (.sit s pos) => (match nthO s pos with
        | some b => bif Nat.blt b.toNat 128 then fNat b.toNat fun c => fNat (Nat.succ pos) fun p => H.put n (.sit s p) fun H => K (.tup [.bool true, .int .i64 (.ofNat pos), .int .i32 (.ofNat c)]) H else none
        | none => K (.tup [.bool false]) H)
      | _ => none)
    | _ => none
  | .next x false => none
  | .entry x => none
  | op => xop P (xopnd E) H op K
variable {P}
theorem exCall_ok {R : Type} {ex : CallF} (hx : CallOk P ex) {c : FuncId × List V} {H : HT} (how : H.Own) {K X : V → HT → Option R} {r : R} (h : exCall ex (some c) H K X = some r) :
    (∃ v H', HT.ext H H' ∧ K v H' = some r ∧ ∀ Kv Xv : V → AH → Prop, Kv v H'.ah → vcEnter P c.1 c.2 H.ah (aEnd Kv Xv)) ∨
    (∃ v H', HT.ext H H' ∧ X v H' = some r ∧ ∀ Kv Xv : V → AH → Prop, Xv v H'.ah → vcEnter P c.1 c.2 H.ah (aEnd Kv Xv)) := by
  obtain ⟨k, l⟩ := c
  obtain ⟨ae, H', he, hk, h1, c⟩ := hx _ _ _ _ _ _ how h
  cases ae with
  | ret v =>
    refine .inl ⟨v, H', he, hk, fun Kv Xv q => ?_⟩
    unfold vcEnter
    simp only [h1]
    refine c.mono ?_
    rintro e h' ⟨rfl, rfl⟩
    exact q
  | panic v =>
    refine .inr ⟨v, H', he, hk, fun Kv Xv q => ?_⟩
    unfold vcEnter
    simp only [h1]
    refine c.mono ?_
    rintro e h' ⟨rfl, rfl⟩
    exact q
theorem decode_ascii {s : List UInt8} {pos : Nat} {b : UInt8} (h : s[pos]? = some b) (hb : b.toNat < 128) : Utf8.decode ⟨s.toArray⟩ pos = (b.toNat, 1) := by
  have e : (ByteArray.get! ⟨s.toArray⟩ (pos + 0)) = b := by
    obtain ⟨hp, hx⟩ := List.getElem?_eq_some_iff.1 h
    simp only [ByteArray.get!, Nat.add_zero]
    rw [getElem!_pos _ _ (by simpa using hp)]
    simpa using hx
  simp only [Utf8.decode, e, if_pos hb]
theorem exOp_ok {R : Type} {ex : CallF} (hx : CallOk P ex) {op : Op} {E : XE} {H : HT} (how : H.Own) {K X : V → HT → Option R} {r : R} (h : exOp P ex op E H K X = some r) :
    (∃ v H', HT.ext H H' ∧ K v H' = some r ∧ ∀ e, Same e E → ∀ (Kv : V → AH → Prop) (Q : AExit → Env → AH → Prop), Kv v H'.ah → vcOp P op e H.ah Kv Q) ∨
    (∃ v H', HT.ext H H' ∧ X v H' = some r ∧ ∀ e, Same e E → ∀ (Kv : V → AH → Prop) (Q : AExit → Env → AH → Prop), Q (.panic v) e H'.ah → vcOp P op e H.ah Kv Q) := by
  have fin : xop P (xopnd E) H op K = some r → ∃ v H', HT.ext H H' ∧ K v H' = some r ∧ ∀ e, Same e E → ∀ (Kv : V → AH → Prop), Kv v H'.ah → bindV (aop P (opnd e) H.ah op) Kv := by
    intro h
    obtain ⟨v, H', h1, h2, h3⟩ := xop_some P h
    refine ⟨v, H', h2, h3, fun e hs Kv q => ?_⟩
    rw [xopnd_eq hs] at h1
    rw [h1]
    exact q
  cases op <;> first | (exact .inl (let ⟨v, H', a, b, c⟩ := fin h; ⟨v, H', a, b, fun e hs Kv Q q => c e hs Kv q⟩)) | skip
  case range t x =>
    simp only [exOp] at h
    split at h
    · rename_i s heq
      split at h
      · rename_i hu
        obtain ⟨H', k1, k2, k3⟩ := H.make_spec (.sit s 0) rfl
        rw [k1] at h
        refine .inl ⟨_, H', k3, h, fun e hs Kv Q q => ?_⟩
        rw [xopnd_eq hs] at heq
        simp only [vcOp, vcRange]
        rw [heq]
        rw [k2] at q
        exact ⟨hu, q⟩
      · cases h
    · cases h
  case next x b =>
    cases b with
    | false => cases h
    | true =>
      simp only [exOp] at h
      split at h
      · rename_i n ty heq
        split at h
        · rename_i s pos hm
          have hm' : H.ah.m n = some (.sit s pos) := hm
          rw [nthO_eq] at h
          split at h
          · rename_i b hb
            obtain ⟨hlt, h⟩ := bif_some h
            have hlt : b.toNat < 128 := by simpa [Nat.blt_eq] using hlt
            rw [fNat_eq, fNat_eq] at h
            obtain ⟨H', k1, k2, k3⟩ := H.put_spec n (.sit s (Nat.succ pos)) rfl
            rw [k1] at h
            refine .inl ⟨_, H', k3, h, fun e hs Kv Q q => ?_⟩
            rw [xopnd_eq hs] at heq
            simp only [vcOp, vcNextS]
            rw [heq]
            refine ⟨rfl, ?_⟩
            simp only [hm']
            have hp : pos < s.length := (List.getElem?_eq_some_iff.1 hb).1
            rw [decode_ascii hb hlt]
            refine ⟨fun _ => ?_, fun hge => by omega⟩
            rw [k2] at q
            exact q
          · rename_i hb
            refine .inl ⟨_, H, HT.ext.refl _, h, fun e hs Kv Q q => ?_⟩
            rw [xopnd_eq hs] at heq
            simp only [vcOp, vcNextS]
            rw [heq]
            refine ⟨rfl, ?_⟩
            simp only [hm']
            have hp : s.length ≤ pos := by simpa using hb
            exact ⟨fun hlt => by omega, fun _ => q⟩
        · cases h
      · cases h
  case entry x => cases h
  case move x => exact .inl ⟨_, H, HT.ext.refl _, h, fun e hs Kv Q q => by rw [xopnd_eq hs] at q; exact q⟩
  case assign x => exact .inl ⟨_, H, HT.ext.refl _, h, fun e hs Kv Q q => by rw [xopnd_eq hs] at q; exact q⟩
  case makeFunc fn a b => exact .inl ⟨_, H, HT.ext.refl _, h, fun e hs Kv Q q => by rw [xopnd_eq hs] at q; exact q⟩
  case panic x =>
    simp only [exOp] at h
    split at h
    · rename_i heq
      refine .inr ⟨_, H, HT.ext.refl _, h, fun e hs Kv Q q => ?_⟩
      rw [xopnd_eq hs] at heq
      simp only [vcOp, vcPanic]
      rw [heq]; exact q
    · cases h
  case call c =>
    obtain ⟨callee, args, ts⟩ := c
    cases callee with
    | builtin b => exact .inl (let ⟨v, H', a, b, c⟩ := fin h; ⟨v, H', a, b, fun e hs Kv Q q => c e hs Kv q⟩)
    | value f =>
      have h : exCall ex (xFun E f args) H K X = some r := h
      cases hc : xFun E f args with
      | none => rw [hc] at h; cases h
      | some c =>
        rw [hc] at h
        rcases exCall_ok hx how h with ⟨v, H', a, b, q⟩ | ⟨v, H', a, b, q⟩
        · exact .inl ⟨v, H', a, b, fun e hs Kv Q k => xFun_ok hs hc (q Kv _ k)⟩
        · exact .inr ⟨v, H', a, b, fun e hs Kv Q k => xFun_ok hs hc (q Kv (fun v h => Q (.panic v) e h) k)⟩
    | invoke rr name =>
      have h : exCall ex (xMeth P E rr name args) H K X = some r := h
      cases hc : xMeth P E rr name args with
      | none => rw [hc] at h; cases h
      | some c =>
        rw [hc] at h
        rcases exCall_ok hx how h with ⟨v, H', a, b, q⟩ | ⟨v, H', a, b, q⟩
        · exact .inl ⟨v, H', a, b, fun e hs Kv Q k => xMeth_ok hs hc (q Kv _ k)⟩
        · exact .inr ⟨v, H', a, b, fun e hs Kv Q k => xMeth_ok hs hc (q Kv (fun v h => Q (.panic v) e h) k)⟩
variable (P)
noncomputable def exRun {R : Type} (ex : CallF) : List Oper → (XE → HT → Option R) → (AExit → XE → HT → Option R) → XE → HT → Option R
  | [], k, _, E, H => k E H
  | o :: rest, k, Q, E, H => exOp P ex o.op E H (fun v H => XE.put N o.dst v E fun E => exRun ex rest k Q E H) (fun v H => Q (.panic v) E H)
noncomputable def xSkip {R : Type} : List Oper → XE → (XE → R) → R
  | [], E, k => k E
  | o :: rest, E, k => XE.put N o.dst hole E fun E => xSkip rest E k
noncomputable def exSegs {R : Type} (ex : CallF) (ops : Array Oper) : List (Option (Nat × Bool) × List Oper) → (AExit → XE → HT → Option R) → XE → HT → Option R
  | [], Q, E, H => Q .normal E H
  | (none, l) :: rest, Q, E, H => exRun P N ex l (fun E H => exSegs ex ops rest Q E H) Q E H
  | (some (j, w), l) :: rest, Q, E, H =>
    match (ops[j]?).bind (·.dst) with
    | some d => bif l.all (fun o => o.dst != some d) then (match XE.get E d with
      | .bool b => bif b == w then exRun P N ex l (fun E H => exSegs ex ops rest Q E H) Q E H else xSkip N l E fun E => exSegs ex ops rest Q E H
      | .tup [] => xSkip N l E fun E => exSegs ex ops rest Q E H
      | _ => none) else none
    | none => none
variable {P N}
theorem exRun_ok {R : Type} {ex : CallF} (hx : CallOk P ex) {k : XE → HT → Option R} {Q : AExit → XE → HT → Option R} {r : R} :
    ∀ (l : List Oper) (E : XE) (H : HT), H.Own → exRun P N ex l k Q E H = some r →
    (∃ E' H', HT.ext H H' ∧ k E' H' = some r ∧ ∀ e, Same e E → ∀ (kv : Env → AH → Prop) (Qv : AExit → Env → AH → Prop), (∀ e', Same e' E' → kv e' H'.ah) → vcRun P N l kv Qv e H.ah) ∨
    (∃ x E' H', HT.ext H H' ∧ Q x E' H' = some r ∧ ∀ e, Same e E → ∀ (kv : Env → AH → Prop) (Qv : AExit → Env → AH → Prop), (∀ e', Same e' E' → Qv x e' H'.ah) → vcRun P N l kv Qv e H.ah)
  | [], E, H, _, h => .inl ⟨E, H, HT.ext.refl _, h, fun e hs kv Qv q => q e hs⟩
  | o :: l, E, H, how, h => by
    simp only [exRun] at h
    rcases exOp_ok hx how h with ⟨v, H', he, h, c⟩ | ⟨v, H', he, h, c⟩
    · obtain ⟨E', g1, g2⟩ := XE.put_spec N o.dst v E
      rw [g1] at h
      rcases exRun_ok hx l E' H' (he.own how) h with ⟨E2, H2, he2, h2, c2⟩ | ⟨x, E2, H2, he2, h2, c2⟩
      · exact .inl ⟨E2, H2, he.trans he2, h2, fun e hs kv Qv q => by simp only [vcRun]; exact c e hs _ _ (c2 _ (g2 e hs) kv Qv q)⟩
      · exact .inr ⟨x, E2, H2, he.trans he2, h2, fun e hs kv Qv q => by simp only [vcRun]; exact c e hs _ _ (c2 _ (g2 e hs) kv Qv q)⟩
    · exact .inr ⟨.panic v, E, H', he, h, fun e hs kv Qv q => by simp only [vcRun]; exact c e hs _ Qv (q e hs)⟩
theorem xSkip_spec {R : Type} : ∀ (l : List Oper) (E : XE) (k : XE → R), ∃ E', xSkip N l E k = k E' ∧ ∀ e, Same e E → Same (skipAll N l e) E'
  | [], E, k => ⟨E, rfl, fun _ h => h⟩
  | o :: l, E, k => by
    obtain ⟨E1, g1, g2⟩ := XE.put_spec N o.dst hole E
    obtain ⟨E2, g3, g4⟩ := xSkip_spec l E1 k
    refine ⟨E2, ?_, fun e h => g4 _ (g2 e h)⟩
    simp only [xSkip]
    rw [g1]; exact g3
theorem exSegs_ok {R : Type} {ex : CallF} (hx : CallOk P ex) {ops : Array Oper} {Q : AExit → XE → HT → Option R} {r : R} :
    ∀ (l : List (Option (Nat × Bool) × List Oper)) (E : XE) (H : HT), H.Own → exSegs P N ex ops l Q E H = some r →
    ∃ x E' H', HT.ext H H' ∧ Q x E' H' = some r ∧ ∀ e, Same e E → ∀ (Qv : AExit → Env → AH → Prop), (∀ e', Same e' E' → Qv x e' H'.ah) → vcSegs P N ops l [] Qv e H.ah
  | [], E, H, _, h => ⟨.normal, E, H, HT.ext.refl _, h, fun e hs Qv q => q e hs⟩
  | (none, l) :: rest, E, H, how, h => by
    simp only [exSegs] at h
    rcases exRun_ok hx l E H how h with ⟨E1, H1, he, h, c⟩ | ⟨x, E1, H1, he, h, c⟩
    · obtain ⟨x, E2, H2, he2, h2, c2⟩ := exSegs_ok hx rest E1 H1 (he.own how) h
      exact ⟨x, E2, H2, he.trans he2, h2, fun e hs Qv q => by simp only [vcSegs]; exact c e hs _ Qv fun e' hs' => c2 e' hs' Qv q⟩
    · exact ⟨x, E1, H1, he, h, fun e hs Qv q => by simp only [vcSegs]; exact c e hs _ Qv q⟩
  | (some (j, w), l) :: rest, E, H, how, h => by
    simp only [exSegs] at h
    split at h
    · rename_i d hd
      obtain ⟨ha, h⟩ := bif_some h
      have run : exRun P N ex l (fun E H => exSegs P N ex ops rest Q E H) Q E H = some r → ∃ x E' H', HT.ext H H' ∧ Q x E' H' = some r ∧ ∀ e, Same e E → ∀ (Qv : AExit → Env → AH → Prop), (∀ e', Same e' E' → Qv x e' H'.ah) →
          vcRun P N l (fun e h => vcSegs P N ops rest [] Qv e h) Qv e H.ah := by
        intro h
        rcases exRun_ok hx l E H how h with ⟨E1, H1, he, h, c⟩ | ⟨x, E1, H1, he, h, c⟩
        · obtain ⟨x, E2, H2, he2, h2, c2⟩ := exSegs_ok hx rest E1 H1 (he.own how) h
          exact ⟨x, E2, H2, he.trans he2, h2, fun e hs Qv q => c e hs _ Qv fun e' hs' => c2 e' hs' Qv q⟩
        · exact ⟨x, E1, H1, he, h, fun e hs Qv q => c e hs _ Qv q⟩
      have skip : xSkip N l E (fun E => exSegs P N ex ops rest Q E H) = some r → ∃ x E' H', HT.ext H H' ∧ Q x E' H' = some r ∧ ∀ e, Same e E → ∀ (Qv : AExit → Env → AH → Prop), (∀ e', Same e' E' → Qv x e' H'.ah) →
          vcSegs P N ops rest [] Qv (skipAll N l e) H.ah := by
        intro h
        obtain ⟨E', g1, g2⟩ := xSkip_spec (N := N) l E (fun E => exSegs P N ex ops rest Q E H)
        rw [g1] at h
        obtain ⟨x, E2, H2, he2, h2, c2⟩ := exSegs_ok hx rest E' H how h
        exact ⟨x, E2, H2, he2, h2, fun e hs Qv q => c2 _ (g2 e hs) Qv q⟩
      split at h
      · rename_i b hb
        cases hbw : b == w with
        | true =>
          rw [hbw] at h
          obtain ⟨x, E2, H2, he2, h2, c2⟩ := run h
          refine ⟨x, E2, H2, he2, h2, fun e hs Qv q => ?_⟩
          simp only [vcSegs]
          rw [hd]
          simp only
          rw [ha, hs d, hb]
          simp only [vcG]
          rw [if_pos (by simpa using hbw)]
          exact c2 e hs Qv q
        | false =>
          rw [hbw] at h
          obtain ⟨x, E2, H2, he2, h2, c2⟩ := skip h
          refine ⟨x, E2, H2, he2, h2, fun e hs Qv q => ?_⟩
          simp only [vcSegs]
          rw [hd]
          simp only
          rw [ha, hs d, hb]
          simp only [vcG]
          rw [if_neg (by simpa using hbw)]
          exact c2 e hs Qv q
      · rename_i hb
        obtain ⟨x, E2, H2, he2, h2, c2⟩ := skip h
        refine ⟨x, E2, H2, he2, h2, fun e hs Qv q => ?_⟩
        simp only [vcSegs]
        rw [hd]
        simp only
        rw [ha, hs d, hb]
        exact c2 e hs Qv q
      · cases h
    · cases h
end
end Go.Ab
