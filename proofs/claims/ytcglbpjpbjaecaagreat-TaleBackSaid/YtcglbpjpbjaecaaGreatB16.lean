import Derived.Test.YtcglbpjpbjaecaaGreatB15
import Derived.Test.YtcglbpjpbjaecaaGreatB14
import Derived.Test.YtcglbpjpbjaecaaGreatB06
import Derived.Shelf.Strings.OnBuilder
import Derived.Test.YtcglbpjpbjaecaaGreatB05
set_option linter.unusedVariables false
set_option linter.unusedSimpArgs false
namespace Go.Proofs.YtcglbpjpbjaecaaGreat.Sh
open Go Go.Ab Go.RowKit
open Go.Proofs.YtcglbpjpbjaecaaGreat.Ru (Pg okP)
open Go.Proofs.YtcglbpjpbjaecaaGreat.Sj (cutAt cutP cut_idx idxB)
set_option maxRecDepth 10000
theorem backT_len (s:List UInt8):(backT s).1.length≤s.length:=by
 unfold backT
 split
 · simp
 · split
   · simp
   · have:=bkL_len s.length s [] (Nat.le_refl _)
     simpa using this
structure Cs.ok (c:Cs):Prop where
 e:c.e.ok
 rest:c.rest.length≤200000
theorem Cs.txn_ok {c:Cs} (h:c.ok):c.txn.ok:=by
 have h1:=rdN_lt (cutAt 32 c.rest).1
 have h2:=cutAt_len 32 c.rest
 exact ⟨⟨h.e.kind,h.e.a,h.e.b,h.e.ck,by show rdN _ < _;omega,h.e.page,h.e.off,h.e.s,h.e.keep⟩,by show (cutAt 32 c.rest).2.1.length≤_;have:=h.rest;omega⟩
theorem Cs.page_ok {c:Cs} (h:c.ok):c.page.ok:=by
 have h2:=cutAt_len 32 c.rest
 exact ⟨⟨h.e.kind,h.e.a,h.e.b,h.e.ck,h.e.txn,by show rdN _ % 65536 < _;omega,h.e.off,h.e.s,h.e.keep⟩,by show (cutAt 32 c.rest).2.1.length≤_;have:=h.rest;omega⟩
theorem Cs.off_ok {c:Cs} (h:c.ok):c.off.ok:=by
 have h1:=rdN_lt (cutAt 32 c.rest).1
 have h2:=cutAt_len 32 c.rest
 have h3:=backT_len (cutAt 32 c.rest).2.1
 have h4:=h.rest
 exact ⟨⟨h.e.kind,h.e.a,h.e.b,h.e.ck,h.e.txn,h.e.page,by show _∧((rdN _:Nat):Int) < _;constructor;(show _≤((rdN _:Nat):Int);omega);omega,by show (backT _).1.length≤_;omega,h.e.keep⟩,by show (cutAt 32 c.rest).2.1.length≤_;omega⟩
theorem callStep_ok {k:Nat} (hk:k < 8) {c:Cs} (h:c.ok):(callStep k c).ok:=by
 have h0:Cs.ok ⟨{ c.e with ck:=k },c.rest⟩:=⟨⟨h.e.kind,h.e.a,h.e.b,by show k < 256;omega,h.e.txn,h.e.page,h.e.off,h.e.s,h.e.keep⟩,h.rest⟩
 unfold callStep
 simp only []
 have h1:(if fTxn k then Cs.txn ⟨{ c.e with ck:=k },c.rest⟩ else ⟨{ c.e with ck:=k },c.rest⟩).ok:=by split;exact Cs.txn_ok h0;exact h0
 have h2:=h1
 generalize (if fTxn k then Cs.txn ⟨{ c.e with ck:=k },c.rest⟩ else ⟨{ c.e with ck:=k },c.rest⟩)=c1 at *
 have h3:(if fPage k then c1.page else c1).ok:=by split;exact Cs.page_ok h1;exact h1
 generalize (if fPage k then c1.page else c1)=c2 at *
 split
 · exact Cs.off_ok h3
 · exact h3
theorem callL_ok (name:List UInt8):∀ (j i:Nat) (c:Cs),i + j≤8→c.ok→(callL name j i c).ok
 | 0,i,c,_,h=>h
 | j + 1,i,c,hi,h=>by
   unfold callL
   refine callL_ok name j (i + 1) _ (by omega) ?_
   split
   · exact callStep_ok (by omega) h
   · exact h
theorem ev0_ok:ev0.ok:=⟨by decide,by decide,by decide,by decide,by decide,by decide,by decide,by decide,by decide⟩
theorem evT_ok (s:List UInt8) (hs:s.length≤200000):(evT s).ok:=by
 have h1:=cutAt_len 32 s
 have h2:=cutAt_len 32 (cutAt 32 s).2.1
 have h3:=cutAt_len 32 (cutAt 32 (cutAt 32 s).2.1).2.1
 have h4:=rdN_lt (cutAt 32 (cutAt 32 s).2.1).1
 have h5:=rdN_lt (cutAt 32 s).2.1
 have h6:=kindIx_lt (cutAt 32 s).1
 unfold evT
 simp only []
 split
 · refine (callL_ok _ 8 0 _ (by omega) ⟨⟨ev0_ok.kind,?_,ev0_ok.b,ev0_ok.ck,ev0_ok.txn,ev0_ok.page,ev0_ok.off,ev0_ok.s,ev0_ok.keep⟩,by show (cutAt 32 _).2.1.length≤_;omega⟩).e
   show _≤((rdN _:Nat):Int)∧((rdN _:Nat):Int) < _
   omega
 · split
   · refine ⟨by show 5 < 256;omega,ev0_ok.a,ev0_ok.b,ev0_ok.ck,ev0_ok.txn,ev0_ok.page,ev0_ok.off,ev0_ok.s,?_⟩
     show List.length (if (cutAt 32 s).2.1=[45] then [] else (cutAt 32 s).2.1.map fun b=>b == 49)≤_
     split
     · simp
     · simp;omega
   · refine ⟨by show kindIx _ < 256;omega,?_,ev0_ok.b,ev0_ok.ck,ev0_ok.txn,ev0_ok.page,ev0_ok.off,ev0_ok.s,ev0_ok.keep⟩
     show _≤((rdN _:Nat):Int)∧((rdN _:Nat):Int) < _
     omega
end Go.Proofs.YtcglbpjpbjaecaaGreat.Sh
namespace Go.Proofs.YtcglbpjpbjaecaaGreat.Sh
open Go Go.Ab Go.RowKit
open Go.Proofs.YtcglbpjpbjaecaaGreat.Ru (Pg okP)
set_option maxRecDepth 100000
end Go.Proofs.YtcglbpjpbjaecaaGreat.Sh
namespace Go.Proofs.YtcglbpjpbjaecaaGreat.Sh
open Go Go.Ab Go.RowKit
open Go.Proofs.YtcglbpjpbjaecaaGreat.Ru (Pg okP)
set_option maxRecDepth 10000
def Ev.pre (e:Ev):Prop :=
 e.kind < 7∧0≤e.a∧e.a < 2147483648∧e.b=0 ∧
 (e.kind≠0→e.ck=0∧e.txn=0∧e.page=0∧e.off=0∧e.s.length=0) ∧
 (e.kind=0→e.a < 10∧e.ck < 8∧e.keep.length=0∧e.txn < 2147483648∧0≤e.off∧e.off < 2147483648∧e.s.length≤64)
instance (e:Ev):Decidable e.pre:=by unfold Ev.pre;infer_instance
theorem eqd (x y:Int):(x == y)=decide (x=y):=by by_cases h:x=y <;> simp [h]
section
variable (e:Ev) (ok:e.ok) {v:V} {h0:AH} {n1 n6 n8:Nat} {h:AH} {k:V}
include ok
end
end Go.Proofs.YtcglbpjpbjaecaaGreat.Sh
namespace Go.Proofs.YtcglbpjpbjaecaaGreat.Sh
open Go Go.Ab Go.RowKit
open Go.Proofs.YtcglbpjpbjaecaaGreat.Ru (Pg okP)
set_option maxRecDepth 10000
section
variable (e:Ev) (ok:e.ok) {v:V} {h0:AH} {n1 n6 n8:Nat} {h:AH} {k:V}
include ok
end
end Go.Proofs.YtcglbpjpbjaecaaGreat.Sh
namespace Go.Proofs.YtcglbpjpbjaecaaGreat.Sj
open Go Go.Ab Go.RowKit Go.Proofs
open Go.Proofs.YtcglbpjpbjaecaaGreat.Ru (Pg okP)
set_option maxRecDepth 100000
section
variable {P:Program} (w:World)
theorem lies_bytes {e:TypeId} (hc:P.cellsOf e=1) (count o n:Nat) (hn:o + n≤count):liesAt P P.depth e count o e n=true:=by
 have hd:P.depth=(2 * (P.types.size + Made.depth) + 1) + 1:=rfl
 rw [hd]
 simp only [liesAt,Bool.or_eq_true]
 left
 rw [hd]
 simp [Go.rowAt,hc,hn,sameLayout,Nat.mod_one]
theorem uStr (pt it ty e:TypeId) (hp:P.underlying pt=some (.pointer e)) (hc:P.cellsOf e=1) (g o cells:Nat) (hsh:w.shape? g=some (e,cells)) (l:List UInt8) (h0:l≠[]) (hn:o + l.length≤cells) (h63:l.length≤9223372036854775807)
   (hcell:∀ j x,l[j]?=some x→w.cell? ((⟨g,o,none⟩:Addr).add j)=some (.int .u8 x.toNat)) :
   (Builtin.unsafeString_ #[pt,it] ty #[.pointer (some ⟨g,o,none⟩),.int .i64 l.length]).run P w=.ok (.string ⟨l.toArray⟩) (w.freeze ⟨g,o,none⟩ l.length):=by
 have hl:l.length≠0:=by simpa using h0
 have hlb:=Lib.run_loadBytes (P:=P) w l ⟨g,o,none⟩ .empty hcell
 have hlies:=lies_bytes (P:=P) hc (cells / P.cellsOf e) o l.length (by rw [hc];simpa using hn)
 have h63':¬ (9223372036854775807:Int) < (l.length:Int):=by omega
 have hdef:Builtin.unsafeString_ #[pt,it] ty #[.pointer (some ⟨g,o,none⟩),.int .i64 l.length] =
     (do
       let n ← asInt (.int .i64 l.length)
       if n < 0 then runtimePanic (.error "unsafe.String: len out of range")
       if n > IntKind.i64.max then unsupported (.unsafePointer "String: a length above the largest int")
       if n=0 then pure (.string .empty)
       else if ← variablesAt ⟨g,o,none⟩ (← elemOf pt) n.toNat then do
         let s ← loadBytes ⟨g,o,none⟩ .empty n.toNat
         freeze ⟨g,o,none⟩ n.toNat
         pure (.string s)
       else unsupported (.unsafePointer "String: not so many bytes at ptr")):=rfl
 rw [hdef]
 have hmax:IntKind.i64.max=9223372036854775807:=rfl
 have hneg:¬ (l.length:Int) < 0:=by omega
 simp [asInt,asIntOf,hmax,h63',hneg,hl,variablesAt,hsh,elemOf,run_underlying hp,hlies,hlb]
end
theorem joLay169:Lays.n169 Tryz.prog joRen:={ joLay with }
theorem joLay240:Lays.n240 Tryz.prog joRen:={ joLay with }
set_option maxHeartbeats 2000000 in
theorem strAt {P:Program} {ρ:Go.Shelf.Ren} (L:Lays.n169 P ρ) (X:Builder.Extra P ρ) (b g o cap:Nat) (p:Value) (cur:Array Value) (fr fr2:Nat × Nat) (l:List UInt8) (w:World) (hbk:w.heap[b]?=some (.cells #[p,.slice (some ⟨g,o,none⟩) l.length cap] (ρ.t 72) fr))
   (hg:w.heap[g]?=some (.cells cur (ρ.t 5) fr2)) (h0:l≠[]) (hc:cap≠0) (hn:o + l.length≤cur.size) (h63:l.length≤9223372036854775807) (hcell:∀ j x,l[j]?=some x→w.cell? ((⟨g,o,none⟩:Addr).add j)=some (.int .u8 x.toNat)) :
   Calls P (ρ.f 169) #[.pointer (some ⟨b,0,none⟩)] w fun e w'=>e=.returned (.string ⟨l.toArray⟩)∧w'=w.drew.freeze ⟨g,o,none⟩ l.length:=by
 have c1:w.drew.cell? ⟨b,1,none⟩=some (.slice (some ⟨g,o,none⟩) l.length cap):=by
   have:w.drew.heap[b]?=some (.cells #[p,.slice (some ⟨g,o,none⟩) l.length cap] (ρ.t 72) fr):=hbk
   rw [Lib.cell_of_heap this];rfl
 have hSD:(Builtin.unsafeSliceData_ #[(ρ.t 37)] (ρ.t 127) #[.slice (some ⟨g,o,none⟩) l.length cap]).run P w.drew=.ok (.pointer (some ⟨g,o,none⟩)) w.drew :=
   Lib.run_unsafeSliceData_row _ _ _ _ _ _ hc
 have hUS:(Builtin.unsafeString_ #[(ρ.t 127),(ρ.t 3)] (ρ.t 9) #[.pointer (some ⟨g,o,none⟩),.int .i64 l.length]).run P w.drew=.ok (.string ⟨l.toArray⟩) (w.drew.freeze ⟨g,o,none⟩ l.length):=by
   refine uStr w.drew (ρ.t 127) (ρ.t 3) (ρ.t 9) (ρ.t 5) L.t127 X.cellsByte g o cur.size (by have hg':w.drew.heap[g]?=some (.cells cur (ρ.t 5) fr2):=hg;simp [World.shape?,hg']) l h0 hn h63 ?_
   intro j x hx
   exact hcell j x hx
 have mixed:=L.mixed
 have t72:=L.t72;have a72:=L.a72;have z72:=L.z72;have v72:=L.v72;have u72:=run_underlying L.t72
 have t70:=L.t70;have a70:=L.a70;have z70:=L.z70;have v70:=L.v70;have u70:=run_underlying L.t70
 have t37:=L.t37;have a37:=L.a37;have z37:=L.z37;have v37:=L.v37;have u37:=run_underlying L.t37
 have t127:=L.t127;have a127:=L.a127;have z127:=L.z127;have v127:=L.v127;have u127:=run_underlying L.t127
 have t3:=L.t3;have a3:=L.a3;have z3:=L.z3;have v3:=L.v3;have u3:=run_underlying L.t3
 have t9:=L.t9;have a9:=L.a9;have z9:=L.z9;have v9:=L.v9;have u9:=run_underlying L.t9
 have t5:=X.t5;have a5:=X.a5;have z5:=X.z5;have v5:=X.v5;have u5:=run_underlying X.t5
 go_enter L.f169,Body.n169_ntmps ρ
 go_wp2
 go_region_o
 all_goals (go_wp2;go_ret;exact ⟨rfl,rfl⟩)
set_option maxHeartbeats 2000000 in
theorem strNil {P:Program} {ρ:Go.Shelf.Ren} (L:Lays.n169 P ρ) (X:Builder.Extra P ρ) (b:Nat) (p:Value) (fr:Nat × Nat) (w:World) (hbk:w.heap[b]?=some (.cells #[p,.slice none 0 0] (ρ.t 72) fr)) :
   Calls P (ρ.f 169) #[.pointer (some ⟨b,0,none⟩)] w fun e w'=>e=.returned (.string ⟨#[]⟩)∧w'=w.drew:=by
 have c1:w.drew.cell? ⟨b,1,none⟩=some (.slice none 0 0):=by
   have:w.drew.heap[b]?=some (.cells #[p,.slice none 0 0] (ρ.t 72) fr):=hbk
   rw [Lib.cell_of_heap this];rfl
 have hSD:(Builtin.unsafeSliceData_ #[(ρ.t 37)] (ρ.t 127) #[.slice none 0 0]).run P w.drew=.ok (.pointer none) w.drew:=Lib.run_unsafeSliceData_nil _ _ _ _ _
 have hUS:(Builtin.unsafeString_ #[(ρ.t 127),(ρ.t 3)] (ρ.t 9) #[.pointer none,.int .i64 0]).run P w.drew=.ok (.string .empty) w.drew:=Lib.run_unsafeString_none _ _ _ _ _
 have mixed:=L.mixed
 have t72:=L.t72;have a72:=L.a72;have z72:=L.z72;have v72:=L.v72;have u72:=run_underlying L.t72
 have t70:=L.t70;have a70:=L.a70;have z70:=L.z70;have v70:=L.v70;have u70:=run_underlying L.t70
 have t37:=L.t37;have a37:=L.a37;have z37:=L.z37;have v37:=L.v37;have u37:=run_underlying L.t37
 have t127:=L.t127;have a127:=L.a127;have z127:=L.z127;have v127:=L.v127;have u127:=run_underlying L.t127
 have t3:=L.t3;have a3:=L.a3;have z3:=L.z3;have v3:=L.v3;have u3:=run_underlying L.t3
 have t9:=L.t9;have a9:=L.a9;have z9:=L.z9;have v9:=L.v9;have u9:=run_underlying L.t9
 have t5:=X.t5;have a5:=X.a5;have z5:=X.z5;have v5:=X.v5;have u5:=run_underlying X.t5
 go_enter L.f169,Body.n169_ntmps ρ
 go_wp2
 go_region_o
 all_goals (go_wp2;go_ret;exact ⟨rfl,rfl⟩)
end Go.Proofs.YtcglbpjpbjaecaaGreat.Sj
namespace Go.Proofs.YtcglbpjpbjaecaaGreat.Sh
open Go Go.Ab Go.RowKit
open Go.Proofs.YtcglbpjpbjaecaaGreat.Ru (Pg okP)
set_option maxRecDepth 100000
/- NOT PRINTED 9 varve/varvelaw28.TaleTells: [a region that draws: guards] -/
noncomputable def B123:Code:=(Tryz.f123.body).getD .skip
def R123:List ResultVar:=[.tmp 4,.tmp 5]
abbrev N123:Nat:=19
def K123:KT:=(.seq .leaf (.seq .leaf (.seq .leaf (.seq .leaf .leaf [4,5]) [1]) [0,1]) [0,1])
theorem S123 (Q:AEnd→AH→Prop) (a0 a1:V) (h:AH):vc Pg N123 B123 K123 (vcRet Pg R123 Q) (initEnv 0 [a0,a1]) h=(
 ACalls Pg 199 [a0] h (aEnd (fun v1 h2 =>
 bindV (aNil a0 h2) fun v3 h4 =>
 bindV (still (aFieldAddr Pg 233 v3 1) h4) fun v5 h6 =>
 bindV (aLoadV Pg h6 207 v5) fun v7 h8 =>
 bindV (aBuiltin Pg h8 .append [207,9] [v7,a1]) fun v9 h10 =>
 bindV (aNil a0 h10) fun v11 h12 =>
 bindV (still (aFieldAddr Pg 233 v11 1) h12) fun v13 h14 =>
 bindV (aStoreV Pg h14 207 v13 v9) fun _ h16 =>
 bindV (aBuiltin Pg h16 .len [9] [a1]) fun v17 h18 =>
 Q (.ret (V.tup [v17,V.nilIfc])) h18) fun v h=>Q (.panic v) h)):=by kernel_rfl
theorem C123 (Q:AEnd→AH→Prop) (a0 a1:V) (h:AH) (c :
 ACalls Pg 199 [a0] h (aEnd (fun v1 h2 =>
 bindV (aNil a0 h2) fun v3 h4 =>
 bindV (still (aFieldAddr Pg 233 v3 1) h4) fun v5 h6 =>
 bindV (aLoadV Pg h6 207 v5) fun v7 h8 =>
 bindV (aBuiltin Pg h8 .append [207,9] [v7,a1]) fun v9 h10 =>
 bindV (aNil a0 h10) fun v11 h12 =>
 bindV (still (aFieldAddr Pg 233 v11 1) h12) fun v13 h14 =>
 bindV (aStoreV Pg h14 207 v13 v9) fun _ h16 =>
 bindV (aBuiltin Pg h16 .len [9] [a1]) fun v17 h18 =>
 Q (.ret (V.tup [v17,V.nilIfc])) h18) fun v h=>Q (.panic v) h)):ACalls Pg 123 [a0,a1] h Q :=
 acalls_of_vc okP Tryz.func123 (show Tryz.f123.body=some B123 from by kernel_rfl) K123 (by rw [← S123 Q a0 a1 h] at c;exact c)
noncomputable def B124:Code:=(Tryz.f124.body).getD .skip
def R124:List ResultVar:=[.tmp 2]
abbrev N124:Nat:=8
def K124:KT:=(.seq .leaf (.seq .leaf .leaf [2]) [0])
theorem S124 (Q:AEnd→AH→Prop) (a0:V) (h:AH):vc Pg N124 B124 K124 (vcRet Pg R124 Q) (initEnv 0 [a0]) h=(
 bindV (aNil a0 h) fun v1 h2 =>
 bindV (still (aFieldAddr Pg 233 v1 1) h2) fun v3 h4 =>
 bindV (aLoadV Pg h4 207 v3) fun v5 h6 =>
 bindV (aBuiltin Pg h6 .len [207] [v5]) fun v7 h8 =>
 Q (.ret v7) h8):=by kernel_rfl
theorem C124 (Q:AEnd→AH→Prop) (a0:V) (h:AH) (c :
 bindV (aNil a0 h) fun v1 h2 =>
 bindV (still (aFieldAddr Pg 233 v1 1) h2) fun v3 h4 =>
 bindV (aLoadV Pg h4 207 v3) fun v5 h6 =>
 bindV (aBuiltin Pg h6 .len [207] [v5]) fun v7 h8 =>
 Q (.ret v7) h8):ACalls Pg 124 [a0] h Q :=
 acalls_of_vc okP Tryz.func124 (show Tryz.f124.body=some B124 from by kernel_rfl) K124 (by rw [← S124 Q a0 h] at c;exact c)
end Go.Proofs.YtcglbpjpbjaecaaGreat.Sh
namespace Go.Proofs.YtcglbpjpbjaecaaGreat.Sj
open Go Go.Ab Go.RowKit Go.Proofs
open Go.Proofs.YtcglbpjpbjaecaaGreat.Ru (Pg okP)
set_option maxRecDepth 100000
variable {B:Base} {ι:Names} {W:World} {h:AH}
theorem two_cells {ι:Names} {x y:V} {cs:List Value} (hx:∀ l,x≠.agg l) (hy:∀ l,y≠.agg l) (r:relC Pg ι (.agg [x,y]) cs):∃ a b,cs=[a,b]∧relC Pg ι x [a]∧relC Pg ι y [b]:=by
 simp only [relC,relCs] at r
 obtain ⟨c1,c2,h1,⟨c3,c4,h2,rfl,rfl⟩,rfl⟩:=r
 obtain ⟨a,rfl,_⟩:=relC_one hx h1
 obtain ⟨b,rfl,_⟩:=relC_one hy h2
 exact ⟨a,b,by simp,h1,h2⟩
theorem bld_obj {n:Nat} {x y:V} (F:Fits Pg B ι h W) (hm:h.m n=some (.cells true (.one 233) (.agg [x,y]))) (hx:∀ l,x≠.agg l) (hy:∀ l,y≠.agg l) :
   ∃ L a b fr,ι n=some L∧L.off=0∧L.size=2∧L.ty=.one 233∧W.heap[L.blk]?=some (.cells #[a,b] 233 fr)∧relC Pg ι x [a]∧relC Pg ι y [b]∧unfrozen fr 2:=by
 obtain ⟨L,hL,k1,k2,a,b,c,elem,fr,k4,k5,k6,k7,k8⟩:=F.obj _ _ hm
 obtain ⟨q8,k9,k10,k11⟩:=(show unfrozen fr L.size∧elem=233∧L.off=0∧L.size=Pg.cellsOf 233 from k8 rfl)
 have hs:Pg.cellsOf 233=2:=by kernel_rfl
 have k11':L.size=2:=k11.trans hs
 obtain ⟨u,v,rfl,r1,r2⟩:=two_cells hx hy k7
 obtain rfl:a=[]:=List.length_eq_zero_iff.1 (by omega)
 obtain rfl:c=[]:=List.length_eq_zero_iff.1 (by simp at k6;omega)
 subst k9
 exact ⟨L,u,v,fr,hL,k10,k11',k1,by simpa using k4,r1,r2,by rw [k11,hs] at q8;exact q8⟩
theorem ptr_addr {n:Nat} {L:Go.Ab.Loc} {v:Value} (hL:ι n=some L) (h0:L.off=0) (ht:L.ty=.one 233) (r:rel Pg ι (.ptr (some ⟨n,.one 233,[]⟩)) v):v=.pointer (some ⟨L.blk,0,none⟩):=itV_inv r rfl hL h0
def bp (n:Nat):V:=.ptr (some ⟨n,.one 233,[]⟩)
theorem copyP (n:Nat) (y p:V) (hp:p=.ptr none∨p=bp n) (hy:∀ l,y≠.agg l) (hm:h.m n=some (.cells true (.one 233) (.agg [p,y]))) :
   ACalls Pg 199 [bp n] h fun e h'=>e=.ret (.tup [])∧h'=h.put n (.cells true (.one 233) (.agg [bp n,y])):=by
 intro B ι W vs F r
 obtain ⟨v0,vs0,h0,r0,rfl⟩:=relL_cons_iff.1 r
 simp only [relL] at r0
 subst r0
 have hpa:∀ l,p≠.agg l:=by rcases hp with rfl | rfl <;> intro l hh <;> cases hh
 obtain ⟨L,a,b,fr,hL,ho,hsz,hty,hb,ra,rb,hfr⟩:=bld_obj F hm hpa hy
 obtain rfl:=ptr_addr hL ho hty h0
 have hnew:relC Pg ι (bp n) [.pointer (some ⟨L.blk,0,none⟩)]:=by
   simp only [bp,relC]
   exact ⟨_,⟨L,0,233,hL,hty,rfl,by rw [ho]⟩,rfl⟩
 have hobj:objR Pg ι (World.putRow W L.blk [.pointer (some ⟨L.blk,0,none⟩),b] 233 fr) L (.cells true (.one 233) (.agg [bp n,y])):=by
   obtain ⟨L2,hL2,_,hs2,_⟩:=F.obj _ _ hm
   rw [hL] at hL2;cases hL2
   refine ⟨hty,?_,[],[.pointer (some ⟨L.blk,0,none⟩),b],[],233,fr,by rw [putRow_at (getBlk_lt hb)];rfl,by rw [ho];rfl,by rw [hsz];rfl,?_,fun _=>⟨by rw [hsz];exact hfr,rfl,ho,by rw [hsz];kernel_rfl⟩⟩
   · have e1:hasShape Pg (bp n) 231=true:=by kernel_rfl
     have u:∃ z w:TypeId,(∀ v w:V,hasShape Pg (.agg [v,w]) 233=(hasShape Pg v 231 && (hasShape Pg w 207 && true))):=⟨0,0,fun v w=>by kernel_rfl⟩
     obtain ⟨_,_,u⟩:=u
     have hs3:hasShape Pg (.agg [p,y]) 233=true:=hs2
     rw [u] at hs3
     show hasShape Pg (.agg [bp n,y]) 233=true
     rw [u,e1]
     simp only [Bool.and_eq_true] at hs3 ⊢
     exact ⟨trivial,hs3.2⟩
   · simp only [relC,relCs]
     exact ⟨_,[b],hnew,⟨[b],[],rb,rfl,rfl⟩,rfl⟩
 have Fput:=F.store (v':=.agg [bp n,y]) hm hL hobj
 rcases hp with rfl | rfl
 · have ea:a=.pointer none:=by simpa [relC] using ra
   subst ea
   have hc:W.cell? ⟨L.blk,0,none⟩=some (.pointer none):=by simp [World.cell?,hb]
   have hsh:W.shape? L.blk=some (233,2):=by simp [World.shape?,hb]
   have hfz:W.frozen? ⟨L.blk,0,none⟩=false:=by
     obtain ⟨lo,hi⟩:=fr
     have:=hfr 0 (by omega)
     simp only at this
     simp only [World.frozen?,hb,Bool.and_eq_false_iff,decide_eq_false_iff_not]
     omega
   refine Calls.mono (Any.Builder_copyCheck_fresh joLay240 joX.toX72 L.blk W hc hsh hfz) ?_
   rintro e w' ⟨rfl,rfl⟩
   have ew:W.setCell ⟨L.blk,0,none⟩ (.pointer (some ⟨L.blk,0,none⟩))=World.putRow W L.blk [.pointer (some ⟨L.blk,0,none⟩),b] 233 fr:=by
     simp only [World.setCell,World.putRow]
     congr 1
     apply Array.ext_getElem?
     intro k
     by_cases hk:k=L.blk
     · subst hk
       rw [Array.getElem?_modify,if_pos rfl,hb,Array.getElem?_setIfInBounds_self_of_lt (getBlk_lt hb)]
       rfl
     · rw [Array.getElem?_modify,if_neg (by omega),Array.getElem?_setIfInBounds_ne (by omega)]
   rw [ew]
   exact ⟨ι,_,.ret (.tup []),Names.le_refl _,Fput,.inr ⟨rfl,by simp only [relC,Value.cells];exact ⟨[],by simp [relL],rfl⟩⟩,rfl,rfl⟩
 · have ea:a=.pointer (some ⟨L.blk,0,none⟩):=by
     have e2:=itV_inv (a:=⟨n,.one 233,[]⟩) (rel_leaf (by intro l hh;cases hh) ra) rfl hL ho
     exact e2
   subst ea
   have hc:W.cell? ⟨L.blk,0,none⟩=some (.pointer (some ⟨L.blk,0,none⟩)):=by simp [World.cell?,hb]
   refine Calls.mono (Any.Builder_copyCheck_used joLay240 joX.toX72 L.blk W hc) ?_
   rintro e w' ⟨rfl,hw⟩
   have ew:World.putRow W L.blk [.pointer (some ⟨L.blk,0,none⟩),b] 233 fr=W:=putRow_self (by simpa using hb)
   rw [ew] at Fput
   rw [hw]
   exact ⟨ι,_,.ret (.tup []),Names.le_refl _,Fput,.inr ⟨rfl,by simp only [relC,Value.cells];exact ⟨[],by simp [relL],rfl⟩⟩,rfl,rfl⟩
def Bld (h:AH) (n:Nat) (l:List UInt8):Prop:=n < h.next∧∃ p y,(p=.ptr none∨p=bp n)∧h.m n=some (.cells true (.one 233) (.agg [p,y]))∧BufB 5 h y l∧∀ len,y≠.slc (some (⟨n,.row 5,[]⟩,0)) len
theorem buf_na {h:AH} {y:V} {l:List UInt8} (b:BufB 5 h y l):∀ m,y≠.agg m:=by
 intro m
 rcases b.shape with ⟨n,rfl⟩ | ⟨a,n,rfl⟩ <;> intro hh <;> cases hh
theorem s207 (a:Option (PA × Nat)) (n:Nat):hasShape Pg (.slc a n) 207=true:=by kernel_rfl
theorem ap2079:apOk Pg 207 9 5=true:=by kernel_rfl
theorem by5:Pg.bytesOf 5=1:=by kernel_rfl
theorem elemsStr (h:AH) (s:List UInt8):aElems Pg h 5 (.str s)=some (bytesV s):=by
 have hu:ul Pg 5=some (.int .u8):=by kernel_rfl
 simp only [aElems,hu]
theorem writeP (n:Nat) (l s:List UInt8) (hs:s≠[]) (hl:l.length + s.length≤140737488355328) (b:Bld h n l) :
   ACalls Pg 123 [bp n,.str s] h fun e h'=>e=.ret (.tup [.int .i64 s.length,.nilIfc])∧Bld h' n (l++s)∧h.next≤h'.next∧(∀ k,k < h.next→k≠n→(∀ y p,h.m n=some (.cells true (.one 233) (.agg [p,y]))→∀ len,y≠.slc (some (⟨k,.row 5,[]⟩,0)) len)→h'.m k=h.m k)∧∀ y p,h'.m n=some (.cells true (.one 233) (.agg [p,y]))→∀ k,k < h.next→∀ len,y≠.slc (some (⟨k,.row 5,[]⟩,0)) len:=by
 obtain ⟨hn,p,y,hp,hm,hb,hny⟩:=b
 refine Sh.C123 _ _ _ _ (callH (copyP n y p hp (buf_na hb) hm) ?_)
 obtain ⟨h1,u1⟩:∃ h1,h1=h.put n (.cells true (.one 233) (.agg [bp n,y])):=⟨_,rfl⟩
 rw [← u1]
 have U:=upd_put h n (.cells true (.one 233) (.agg [bp n,y]))
 rw [← u1] at U
 refine bindV_mk rfl ?_
 refine bindS_mk (fa_mk (by kernel_rfl)) ?_
 refine bindV_mk (ld_mk U.at_ (by kernel_rfl) rfl) ?_
 have hb1:BufB 5 h1 y l:=by
   rcases hb with ⟨rfl,rfl⟩ | ⟨m,g1,rfl,g3⟩
   · exact .inl ⟨rfl,rfl⟩
   · refine .inr ⟨m,by rw [U.next];exact g1,rfl,?_⟩
     rw [U.other m (fun e=>by subst e;exact hny _ rfl)];exact g3
 obtain ⟨v,h2,e2,hb2,hn2,hk2⟩:=hb1.app ap2079 by5 (elemsStr h1 s) hs hl
 refine bindV_mk e2 ?_
 have hm2:h2.m n=some (.cells true (.one 233) (.agg [bp n,y])):=by
   rw [hk2 n (by rw [U.next];exact hn) (fun len=>hny len)];exact U.at_
 refine bindV_mk rfl ?_
 refine bindS_mk (fa_mk (by kernel_rfl)) ?_
 have hvs:hasShape Pg v 207=true:=by rcases hb2.shape with ⟨k,rfl⟩ | ⟨a,k,rfl⟩ <;> exact s207 _ _
 refine bindE (st_at hm2 (by kernel_rfl) rfl hvs rfl) fun h3 u3=>?_
 refine bindV_mk (len_str (by kernel_rfl)) ?_
 have hvn:∀ k,k < h1.next→∀ len,v≠.slc (some (⟨k,.row 5,[]⟩,0)) len:=by
   -- the new row's name lies ahead
   intro k hk len e
   subst e
   have hw':bytesV s≠[]:=by cases s <;> simp_all [bytesV]
   rcases hb1 with ⟨rfl,rfl⟩ | ⟨m,g1,rfl,g3⟩
   · obtain ⟨h',e1,u⟩:=apN_at (n:=0) ap2079 (elemsStr h1 s) hw' (by rw [by5,bytesV_len];simp at hl;omega)
     rw [e1] at e2
     simp only [Option.some.injEq,Prod.mk.injEq,V.slc.injEq,PA.mk.injEq] at e2
     omega
   · obtain ⟨h',e1,u⟩:=apR_at (i:=0) (n:=l.length) ap2079 g1 g3 (by rw [bytesV_len];omega) (elemsStr h1 s) hw' (by rw [by5,bytesV_len];omega)
     rw [e1] at e2
     simp only [Option.some.injEq,Prod.mk.injEq,V.slc.injEq,PA.mk.injEq] at e2
     omega
 refine ⟨rfl,⟨by rw [u3.next];have:=U.next;omega,bp n,v,.inr rfl,u3.at_,?_,fun len=>hvn n (by rw [U.next];exact hn) len⟩,by rw [u3.next];have:=U.next;omega,fun k hk hkn hky=>?_,fun y' p' hh k hk len e=>by rw [u3.at_] at hh;cases hh;exact hvn k (by rw [U.next];exact hk) len e⟩
 · rcases hb2 with ⟨rfl,q⟩ | ⟨m,g1,rfl,g3⟩
   · exact .inl ⟨rfl,q⟩
   · refine .inr ⟨m,by rw [u3.next];exact g1,rfl,?_⟩
     rw [u3.other m (fun e=>by subst e;exact hvn _ (by rw [U.next];exact hn) _ rfl)];exact g3
 · rw [u3.other k hkn,hk2 k (by rw [U.next];exact hk) (fun len=>hky y p hm len),U.other k hkn]
theorem lenP (n:Nat) (l:List UInt8) (b:Bld h n l):ACalls Pg 124 [bp n] h (pureE (.int .i64 l.length) h):=by
 obtain ⟨hn,p,y,hp,hm,hb,hny⟩:=b
 refine Sh.C124 _ _ _ ?_
 refine bindV_mk rfl ?_
 refine bindS_mk (fa_mk (by kernel_rfl)) ?_
 refine bindV_mk (ld_mk hm (by kernel_rfl) rfl) ?_
 rcases hb with ⟨rfl,rfl⟩ | ⟨m,g1,rfl,g3⟩
 · exact bindV_mk (len_slc (by kernel_rfl)) ⟨rfl,rfl⟩
 · exact bindV_mk (len_slc (by kernel_rfl)) ⟨rfl,rfl⟩
end Go.Proofs.YtcglbpjpbjaecaaGreat.Sj
namespace Go.Proofs.YtcglbpjpbjaecaaGreat.Sj
open Go Go.Ab Go.RowKit Go.Proofs
open Go.Proofs.YtcglbpjpbjaecaaGreat.Ru (Pg okP)
set_option maxRecDepth 100000
variable {h:AH}
theorem relCs_bytes' {ι:Names}:∀ {l:List UInt8} {cs:List Value},relCs Pg ι (bytesV l) cs→cs=l.map fun b=>Value.int .u8 b.toNat
 | [],cs,h=>by simpa only [bytesV,List.map_nil,relCs] using h
 | b :: l,cs,h=>by
   have e:bytesV (b :: l)=.int .u8 b.toNat :: bytesV l:=rfl
   rw [e] at h
   simp only [relCs,relC] at h
   obtain ⟨a,c,rfl,h2,rfl⟩:=h
   rw [relCs_bytes' h2];rfl
theorem stringK (n m:Nat) (p:V) (l:List UInt8) (hl:l.length≤140737488355328) (h0:l≠[]) (hp:p=.ptr none∨p=bp n)
   (hm:h.m n=some (.cells true (.one 233) (.agg [p,.slc (some (⟨m,.row 5,[]⟩,0)) l.length]))) (g3:h.m m=some (.cells true (.row 5) (.agg (bytesV l)))) :
   ACalls Pg 125 [bp n] h (fun e h'=>e=.ret (.str l)∧h'=h.kill m):=by
 have hpa:∀ l,p≠.agg l:=by rcases hp with rfl | rfl <;> intro l hh <;> cases hh
 intro B ι W vs F r
 obtain ⟨v0,vs0,q0,r0,rfl⟩:=relL_cons_iff.1 r
 simp only [relL] at r0
 subst r0
 obtain ⟨L,a,b,fr,hL,ho,hsz,hty,hbk,ra,rb,hfr⟩:=bld_obj F hm hpa (by intro l hh;cases hh)
 obtain rfl:=ptr_addr hL ho hty q0
 have rb':rel Pg ι (.slc (some (⟨m,.row 5,[]⟩,0)) l.length) b:=rel_leaf (by intro l hh;cases hh) rb
 obtain ⟨x,cap,rfl,hcap,hrow⟩:=rel_slc rb'
 have hl0:0 < l.length:=List.length_pos_iff.2 h0
 obtain ⟨L2,o,e,k1,k2,k3,k4,k5⟩:=hrow (by omega)
 obtain ⟨L3,j1,j2,j3,ca,cb,cc,elem,fr2,j4,j5,j6,j7,j8⟩:=F.obj _ _ g3
 rw [k1] at j1;cases j1
 have hro:Go.Ab.rowAt Pg (.row 5) []=some (0,5):=rfl
 rw [hro] at k3;cases k3
 have hcb:cb=l.map fun b=>Value.int .u8 b.toNat:=relCs_bytes' (by simpa only [relC] using j7)
 have hel:elem=5:=(j8 rfl).2
 subst hel
 have hx:x=⟨L2.blk,L2.off,none⟩:=by rw [k4];simp
 subst hx
 have hcell:∀ j x,l[j]?=some x→W.cell? ((⟨L2.blk,L2.off,none⟩:Addr).add j)=some (.int .u8 x.toNat):=by
   intro j x hj
   rw [addr_add,← j5]
   refine cell_in j4 j _ ?_
   rw [hcb,List.getElem?_map,hj];rfl
 have key:=strAt joLay169 joX L.blk L2.blk L2.off cap a (ca++cb++cc).toArray fr fr2 l W hbk j4 h0 (by omega) (by
   rw [hcb,← j5];simp) (by omega) hcell
 refine Calls.mono key ?_
 rintro e w' ⟨rfl,rfl⟩
 obtain ⟨fr3,hfr3⟩:∃ fr3,W.drew.freeze ⟨L2.blk,L2.off,none⟩ l.length=(World.putRow W L2.blk (ca++cb++cc) 5 fr3).drew:=by
   obtain ⟨lo,hi⟩:=fr2
   refine ⟨if lo == hi then (L2.off,L2.off + l.length) else (min lo L2.off,max hi (L2.off + l.length)),?_⟩
   simp only [World.freeze,World.drew,World.putRow,if_neg (show ¬ l.length=0 by omega)]
   congr 1
   apply Array.ext_getElem?
   intro k
   by_cases hk:k=L2.blk
   · subst hk
     rw [Array.getElem?_modify,if_pos rfl,j4,Array.getElem?_setIfInBounds_self_of_lt (getBlk_lt j4)]
     rfl
   · rw [Array.getElem?_modify,if_neg (by omega),Array.getElem?_setIfInBounds_ne (by omega)]
 rw [hfr3]
 have Fk:=F.letGo g3 rfl k1 (ca++cb++cc) 5 fr3
 exact ⟨ι,h.kill m,.ret (.str l),Names.le_refl _,Fk.drew _,.inr ⟨rfl,by simp only [relC,Value.cells]⟩,rfl,rfl⟩
theorem stringP (n:Nat) (l:List UInt8) (hl:l.length≤140737488355328) (b:Bld h n l) (hne:l=[]→∃ p,h.m n=some (.cells true (.one 233) (.agg [p,.slc none 0]))) :
   ∃ h2,ACalls Pg 125 [bp n] h (fun e h'=>e=.ret (.str l)∧h'=h2)∧h2.next=h.next∧∀ k,(∀ y p,h.m n=some (.cells true (.one 233) (.agg [p,y]))→∀ len,y≠.slc (some (⟨k,.row 5,[]⟩,0)) len)→h2.m k=h.m k:=by
 obtain ⟨hn,p,y,hp,hm,hb,hny⟩:=b
 have hpa:∀ l,p≠.agg l:=by rcases hp with rfl | rfl <;> intro l hh <;> cases hh
 by_cases h0:l=[]
 · obtain ⟨p',hm'⟩:=hne h0
   rw [hm] at hm'
   simp only [Option.some.injEq,AO.cells.injEq,V.agg.injEq,List.cons.injEq,and_true,true_and] at hm'
   obtain ⟨_,rfl⟩:=hm'
   subst h0
   refine ⟨h,?_,rfl,fun k _=>rfl⟩
   intro B ι W vs F r
   obtain ⟨v0,vs0,q0,r0,rfl⟩:=relL_cons_iff.1 r
   simp only [relL] at r0
   subst r0
   obtain ⟨L,a,b,fr,hL,ho,hsz,hty,hbk,ra,rb,hfr⟩:=bld_obj F hm hpa (by intro l hh;cases hh)
   obtain rfl:=ptr_addr hL ho hty q0
   have eb:b=.slice none 0 0:=by
     have:0=0∧[b]=[Value.slice none 0 0]:=by simpa only [relC] using rb
     simpa using this.2
   subst eb
   refine Calls.mono (strNil joLay169 joX L.blk a fr W hbk) ?_
   rintro e w' ⟨rfl,rfl⟩
   exact ⟨ι,h,.ret (.str []),Names.le_refl _,F.drew _,.inr ⟨rfl,by simp only [relC,Value.cells]⟩,rfl,rfl⟩
 · rcases hb with ⟨rfl,rfl⟩ | ⟨m,g1,rfl,g3⟩
   · exact absurd rfl h0
   refine ⟨h.kill m,stringK n m p l hl h0 hp hm g3,rfl,fun k hk=>by rw [kill_m,if_neg (fun e=>by subst e;exact hk _ _ hm _ rfl)]⟩
end Go.Proofs.YtcglbpjpbjaecaaGreat.Sj
namespace Go.Proofs.YtcglbpjpbjaecaaGreat.Sj
open Go Go.Ab Go.RowKit Go.Proofs
open Go.Proofs.YtcglbpjpbjaecaaGreat.Ru (Pg okP)
set_option maxRecDepth 100000
variable {h:AH}
structure BldF (h:AH) (n:Nat) (l:List UInt8) (b0:Nat):Prop where
 bld:Bld h n l
 young:∀ y p,h.m n=some (.cells true (.one 233) (.agg [p,y]))→∀ k,k < b0→∀ len,y≠.slc (some (⟨k,.row 5,[]⟩,0)) len
 none:l=[]→∃ p,h.m n=some (.cells true (.one 233) (.agg [p,.slc none 0]))
theorem bldF_new {n b0:Nat} (hn:n < h.next) (hm:h.m n=some (.cells true (.one 233) (.agg [.ptr none,.slc none 0]))):BldF h n [] b0 :=
 ⟨⟨hn,_,_,.inl rfl,hm,.inl ⟨rfl,rfl⟩,fun len e=>by cases e⟩,(fun y p hh k hk len e=>by rw [hm] at hh;cases hh;cases e),fun _=>⟨_,hm⟩⟩
theorem BldF.keep {h':AH} {n b0:Nat} {l:List UInt8} (b:BldF h n l b0) (hn:h.next≤h'.next) (hk:∀ k,k < h.next→h'.m k=h.m k):BldF h' n l b0:=by
 obtain ⟨⟨h1,p,y,h2,h3,h4,h5⟩,y1,z1⟩:=b
 have e:=hk n h1
 exact ⟨⟨by omega,p,y,h2,e.trans h3,h4.keep hn hk,h5⟩,fun y p hh=>y1 y p (e▸hh),fun hl=>by obtain ⟨p,hp⟩:=z1 hl;exact ⟨p,e.trans hp⟩⟩
theorem writeF (n b0:Nat) (l s:List UInt8) (hs:s≠[]) (hl:l.length + s.length≤140737488355328) (b:BldF h n l b0) (hb0:b0≤n) :
   ACalls Pg 123 [bp n,.str s] h fun e h'=>e=.ret (.tup [.int .i64 s.length,.nilIfc])∧(BldF h' n (l++s) b0∧h.next≤h'.next∧∀ k,k < b0→h'.m k=h.m k):=by
 have hn:=b.bld.1
 refine (writeP n l s hs hl b.bld).mono fun e h' q=>?_
 obtain ⟨q1,q2,q3,q4,q5⟩:=q
 refine ⟨q1,⟨q2,fun y p hh k hk=>q5 y p hh k (by omega),fun e=>absurd (List.append_eq_nil_iff.1 e).2 hs⟩,q3,fun k hk=>q4 k (by omega) (by omega) fun y p hh=>b.young y p hh k hk⟩
theorem stringF (n b0:Nat) (l:List UInt8) (hl:l.length≤140737488355328) (b:BldF h n l b0) :
   ACalls Pg 125 [bp n] h fun e h'=>e=.ret (.str l)∧(h'.next=h.next∧∀ k,k < b0→h'.m k=h.m k):=by
 obtain ⟨h2,c,e1,e2⟩:=stringP n l hl b.bld b.none
 exact c.mono fun e h' q=>⟨q.1,by rw [q.2];exact ⟨e1,fun k hk=>e2 k fun y p hh=>b.young y p hh k hk⟩⟩
end Go.Proofs.YtcglbpjpbjaecaaGreat.Sj
namespace Go.Proofs.YtcglbpjpbjaecaaGreat.Sh
open Go Go.Ab Go.RowKit
open Go.Proofs.YtcglbpjpbjaecaaGreat.Ru (Pg okP)
set_option maxRecDepth 10000
def EvsAt (h:AH) (xs:List V) (l:List Ev):Prop:=xs.length=l.length∧∀ (i:Nat) (e:Ev),l[i]?=some e→∃ k,xs[i]?=some (evV e k)∧KeepB h k e.keep
theorem EvsAt.keep {h h':AH} {xs:List V} {l:List Ev} (b:EvsAt h xs l) (hn:h.next≤h'.next) (hk:∀ n,n < h.next→h'.m n=h.m n):EvsAt h' xs l :=
 ⟨b.1,fun i e he=>let ⟨k,h1,h2⟩:=b.2 i e he;⟨k,h1,h2.keep hn hk⟩⟩
def ScrB (h:AH) (x:V) (l:List Ev):Prop :=
 (x=.slc none 0∧l=[])∨∃ n xs,n < h.next∧x=.slc (some (⟨n,.row 73,[]⟩,0)) l.length∧h.m n=some (.cells true (.row 73) (.agg xs))∧EvsAt h xs l
theorem ScrB.keep {h h':AH} {x:V} {l:List Ev} (b:ScrB h x l) (hn:h.next≤h'.next) (hk:∀ n,n < h.next→h'.m n=h.m n):ScrB h' x l:=by
 rcases b with ⟨rfl,rfl⟩ | ⟨n,xs,h1,rfl,h3,h4⟩
 · exact .inl ⟨rfl,rfl⟩
 · exact .inr ⟨n,xs,by omega,rfl,(hk n h1).trans h3,h4.keep hn hk⟩
theorem ScrB.shape {h:AH} {x:V} {l:List Ev} (b:ScrB h x l):∃ a,x=.slc a l.length:=by
 rcases b with ⟨rfl,rfl⟩ | ⟨n,xs,h1,rfl,h3,h4⟩ <;> exact ⟨_,rfl⟩
theorem ScrB.at {h:AH} {x:V} {l:List Ev} (b:ScrB h x l) {i:Nat} {e:Ev} (he:l[i]?=some e) :
   ∃ n xs k,n < h.next∧x=.slc (some (⟨n,.row 73,[]⟩,0)) l.length∧h.m n=some (.cells true (.row 73) (.agg xs))∧xs[i]?=some (evV e k)∧KeepB h k e.keep:=by
 rcases b with ⟨_,rfl⟩ | ⟨n,xs,h1,h2,h3,h4⟩
 · cases he
 · obtain ⟨k,k1,k2⟩:=h4.2 i e he
   exact ⟨n,xs,k,h1,h2,h3,k1,k2⟩
def printL:List Ev→List UInt8→List UInt8 × Int
 | [],out=>(out,0)
 | e :: l,out=>if e.fine then (if 131072 < out.length + (e.txt.length + 1) then ([],10) else printL l (out++(e.txt++[10]))) else ([],1)
def printF (l:List Ev):List UInt8 × Int:=if 2000 < l.length then ([],10) else printL l []
def prV (x:List UInt8 × Int):V:=.tup [.str x.1,.int .i64 x.2]
theorem bitsT_len (l:List Bool):(bitsT l).length=l.length:=by simp [bitsT]
theorem txt_len {e:Ev} (ok:e.ok) (h:e.fine):e.txt.length≤3000:=by
 have k1:=ok.kind;have k2:=ok.a;have k5:=ok.txn;have k6:=ok.page;have k7:=ok.off
 unfold Ev.fine at h
 have l1:=name_len e.ck;have l2:=dec_len20 (n:=e.a.toNat) (by omega);have l3:=dec_len20 (n:=e.txn) (by omega);have l4:=dec_len20 (n:=e.page) (by omega);have l5:=dec_len20 (n:=e.off.toNat) (by omega);have l6:=hexS_len e.s
 have l7:=kindName_len e.kind
 have l8:=bitsT_len e.keep
 unfold Ev.txt
 split
 · split <;> split <;> split <;> simp only [List.length_append,List.length_cons,List.length_nil] <;> omega
 · split
   · split <;> simp only [List.length_append,List.length_cons,List.length_nil] <;> omega
   · simp only [List.length_append,List.length_cons,List.length_nil];omega
end Go.Proofs.YtcglbpjpbjaecaaGreat.Sh
namespace Go.Ab
open Go
def floB (h:AH) (r:Option (AO × (Nat→V))) (K:V→AH→Prop):Prop :=
 match r with
 | some (ob,mk)=>(∀ n o,h.m n=some o→o.isOwn=true)∧K (mk h.next) (h.make ob)
 | none=>False
theorem flo_mk {P:Program} {h:AH} {t:TypeId} {z:V} {K:V→AH→Prop} (hz:zeroV P t=some z) (hs:hasShape P z t=true) (ho:oldV (fun _=>false) z=true) (hown:∀ n o,h.m n=some o→o.isOwn=true)
   (k:K (.ptr (some ⟨h.next,.one t,[]⟩)) (h.make (.cells true (.one t) z))):floB h (floOp P (fun _=>.und) (.alloc t)) K:=by
 simp only [floB,floOp,hz,hs,ho,Bool.and_self,if_true]
 exact ⟨hown,k⟩
end Go.Ab
namespace Go.Proofs.YtcglbpjpbjaecaaGreat.Sh
open Go Go.Ab Go.RowKit
open Go.Proofs.YtcglbpjpbjaecaaGreat.Ru (Pg okP)
set_option maxRecDepth 100000
noncomputable def B11:Code:=(Tryz.f11.body).getD .skip
def R11:List ResultVar:=[.tmp 4]
abbrev N11:Nat:=76
def K11:KT:=(.seq .leaf (.seq .leaf (.seq .leaf (.join (.seq .leaf (.two (.seq .leaf (.join (.reg [[0,1,7,33,35],[1,37,41]]) (.two (.seq .leaf .leaf [4]) .leaf) [1,42]) [0,1,7,8,9]) .leaf) [0,1,5,24]) (.join (.seq .leaf (.two (.seq .leaf .leaf [4]) .leaf) [1,45]) (.seq .leaf (.join (.seq .leaf (.two (.join (.reg [[58,59]]) .leaf [4]) .leaf) [1,10,54]) (.seq .leaf (.join (.reg [[68,71],[73,74]]) .leaf [4]) [1,13,14]) [1,10]) [1,10,12]) [1]) [1]) [0,1,5,6]) [0,1]) [0,1])
def Jz1w (Q:AEnd→AH→Prop) (x4:V) (h:AH):Prop:=vcAt Pg N11 B11 K11 [1,1,1,1,1,1,0,1,0,1] [] (vcRet Pg R11 Q) [(4,x4)] h
def Gz4 (Q:AEnd→AH→Prop) (x58 x59:V) (h:AH):Prop:=segAt Pg N11 B11 K11 [1,1,1,1,1,1,0,1,0,0] 2 1 [] (vcRet Pg R11 Q) [(58,x58),(59,x59)] h
def Jz1y (Q:AEnd→AH→Prop) (x4:V) (h:AH):Prop:=vcAt Pg N11 B11 K11 [1,1,1,1,1,1,1,1,1] [] (vcRet Pg R11 Q) [(4,x4)] h
def Gz6 (Q:AEnd→AH→Prop) (x73 x74:V) (h:AH):Prop:=segAt Pg N11 B11 K11 [1,1,1,1,1,1,1,1,0] 4 2 [] (vcRet Pg R11 Q) [(73,x73),(74,x74)] h
def Gz5 (Q:AEnd→AH→Prop) (x68 x71:V) (h:AH):Prop:=segAt Pg N11 B11 K11 [1,1,1,1,1,1,1,1,0] 2 1 [] (vcRet Pg R11 Q) [(68,x68),(71,x71)] h
def Jz1x (Q:AEnd→AH→Prop) (x1 x10:V) (h:AH):Prop:=vcAt Pg N11 B11 K11 [1,1,1,1,1,1,1] [] (vcRet Pg R11 Q) [(1,x1),(10,x10)] h
def Jz1v (Q:AEnd→AH→Prop) (x1:V) (h:AH):Prop:=vcAt Pg N11 B11 K11 [1,1,1,1,1] [] (vcRet Pg R11 Q) [(1,x1)] h
def Jz1u (Q:AEnd→AH→Prop) (x1:V) (h:AH):Prop:=vcAt Pg N11 B11 K11 [1,1,1,1] [] (vcRet Pg R11 Q) [(1,x1)] h
def Jz1t (Q:AEnd→AH→Prop) (x1 x42:V) (h:AH):Prop:=vcAt Pg N11 B11 K11 [1,1,1,0,1,0,1,1] [] (vcRet Pg R11 Q) [(1,x1),(42,x42)] h
def Gz3 (Q:AEnd→AH→Prop) (x1 x37 x41:V) (h:AH):Prop:=segAt Pg N11 B11 K11 [1,1,1,0,1,0,1,0] 4 2 [] (vcRet Pg R11 Q) [(1,x1),(37,x37),(41,x41)] h
def Gz2 (Q:AEnd→AH→Prop) (x0 x1 x7 x33 x35:V) (h:AH):Prop:=segAt Pg N11 B11 K11 [1,1,1,0,1,0,1,0] 2 1 [] (vcRet Pg R11 Q) [(0,x0),(1,x1),(7,x7),(33,x33),(35,x35)] h
theorem Jz1w_eq (Q:AEnd→AH→Prop) (x4:V) (h:AH):Jz1w Q x4 h=(
 Q (.ret x4) h):=by kernel_rfl
theorem Gz4_eq (Q:AEnd→AH→Prop) (x58 x59:V) (h:AH):Gz4 Q x58 x59 h=(
 bindV (aPick x58 x59 (V.bool false) h) fun v47 h48 =>
 Meet (Jz1w Q v47 h48)):=by kernel_rfl
theorem Jz1y_eq (Q:AEnd→AH→Prop) (x4:V) (h:AH):Jz1y Q x4 h=(
 Q (.ret x4) h):=by kernel_rfl
theorem Gz6_eq (Q:AEnd→AH→Prop) (x73 x74:V) (h:AH):Gz6 Q x73 x74 h=(
 bindV (aPick x73 x74 (V.bool false) h) fun v61 h62 =>
 Meet (Jz1y Q v61 h62)):=by kernel_rfl
theorem Gz5_eq (Q:AEnd→AH→Prop) (x68 x71:V) (h:AH):Gz5 Q x68 x71 h=(
 bindV (aPick x68 x71 (V.bool false) h) fun v59 h60 =>
 vcG v59 true (
 ACalls Pg 42 [] h60 (aEnd (fun v63 h64 =>
 Meet (Gz6 Q v59 v63 h64)) fun v h=>Q (.panic v) h)) (Meet (Gz6 Q v59 hole h60))):=by kernel_rfl
theorem Jz1x_eq (Q:AEnd→AH→Prop) (x1 x10:V) (h:AH):Jz1x Q x1 x10 h=(
 ACalls Pg 49 [x10] h (aEnd (fun v51 h52 =>
 bindV (still (aExtract v51 0) h52) fun v53 h54 =>
 bindV (still (aExtract v51 1) h54) fun v55 h56 =>
 bindV (still (aBin Pg .eql 29 v55 (V.int .i64 0) true) h56) fun v57 h58 =>
 vcG v57 true (
 bindV (still (aBin Pg .eql 9 v53 x1 false) h58) fun v65 h66 =>
 Meet (Gz5 Q v57 v65 h66)) (Meet (Gz5 Q v57 hole h58))) fun v h=>Q (.panic v) h)):=by kernel_rfl
theorem Jz1v_eq (Q:AEnd→AH→Prop) (x1:V) (h:AH):Jz1v Q x1 h=(
 ACalls Pg 43 [x1] h (aEnd (fun v33 h34 =>
 bindV (still (aExtract v33 0) h34) fun v35 h36 =>
 bindV (still (aExtract v33 1) h36) fun v37 h38 =>
 bindV (still (aExtract v33 2) h38) fun v39 h40 =>
 bindV (still (aBin Pg .neq 29 v39 (V.int .i64 0) true) h40) fun v41 h42 =>
 vcIf v41 (
 bindV (aBuiltin Pg h42 .len [84] [v35]) fun v43 h44 =>
 bindV (still (aBin Pg .eql 3 v43 (V.int .i64 0) true) h44) fun v45 h46 =>
 vcG v45 true (
 ACalls Pg 42 [] h46 (aEnd (fun v49 h50 =>
 Meet (Gz4 Q v45 v49 h50)) fun v h=>Q (.panic v) h)) (Meet (Gz4 Q v45 hole h46))) (
 Meet (Jz1x Q x1 v35 h42))) fun v h=>Q (.panic v) h)):=by kernel_rfl
theorem Jz1u_eq (Q:AEnd→AH→Prop) (x1:V) (h:AH):Jz1u Q x1 h=(
 bindV (aBuiltin Pg h .len [9] [x1]) fun v27 h28 =>
 bindV (still (aBin Pg .gtr 3 v27 (V.int .i64 262144) true) h28) fun v29 h30 =>
 vcIf v29 (
 ACalls Pg 42 [] h30 (aEnd (fun v31 h32 =>
 Q (.ret v31) h32) fun v h=>Q (.panic v) h)) (
 Meet (Jz1v Q x1 h30))):=by kernel_rfl
theorem Jz1t_eq (Q:AEnd→AH→Prop) (x1 x42:V) (h:AH):Jz1t Q x1 x42 h=(
 vcIf x42 (
 Q (.ret (V.bool false)) h) (
 Meet (Jz1u Q x1 h))):=by kernel_rfl
theorem Gz3_eq (Q:AEnd→AH→Prop) (x1 x37 x41:V) (h:AH):Gz3 Q x1 x37 x41 h=(
 bindV (aPick x37 (V.bool true) x41 h) fun v25 h26 =>
 Meet (Jz1t Q x1 v25 h26)):=by kernel_rfl
theorem Gz2_eq (Q:AEnd→AH→Prop) (x0 x1 x7 x33 x35:V) (h:AH):Gz2 Q x0 x1 x7 x33 x35 h=(
 bindV (aPick x33 (V.bool true) x35 h) fun v23 h24 =>
 vcG v23 false (
 ACalls Pg 45 [x0,x7] h24 (aEnd (fun v67 h68 =>
 bindV (still (aUn .not v67) h68) fun v69 h70 =>
 Meet (Gz3 Q x1 v23 v69 h70)) fun v h=>Q (.panic v) h)) (Meet (Gz3 Q x1 v23 hole h24))):=by kernel_rfl
theorem S11 (Q:AEnd→AH→Prop) (a0 a1:V) (h:AH):vc Pg N11 B11 K11 (vcRet Pg R11 Q) (initEnv 0 [a0,a1]) h=(
 ACalls Pg 46 [a0] h (aEnd (fun v1 h2 =>
 ACalls Pg 46 [v1] h2 (aEnd (fun v3 h4 =>
 ACalls Pg 49 [v3] h4 (aEnd (fun v5 h6 =>
 bindV (still (aExtract v5 0) h6) fun v7 h8 =>
 bindV (still (aExtract v5 1) h8) fun v9 h10 =>
 bindV (still (aBin Pg .eql 29 v9 (V.int .i64 0) true) h10) fun v11 h12 =>
 vcIf v11 (
 ACalls Pg 43 [v7] h12 (aEnd (fun v13 h14 =>
 bindV (still (aExtract v13 0) h14) fun v15 h16 =>
 bindV (still (aExtract v13 1) h16) fun v17 h18 =>
 bindV (still (aExtract v13 2) h18) fun v19 h20 =>
 bindV (still (aBin Pg .neq 29 v19 (V.int .i64 0) true) h20) fun v21 h22 =>
 vcG v21 false (
 bindV (still (aBin Pg .neq 3 v17 (V.int .i64 0) true) h22) fun v71 h72 =>
 Meet (Gz2 Q v1 a1 v15 v21 v71 h72)) (Meet (Gz2 Q v1 a1 v15 v21 hole h22))) fun v h=>Q (.panic v) h)) (
 Meet (Jz1u Q a1 h12))) fun v h=>Q (.panic v) h)) fun v h=>Q (.panic v) h)) fun v h=>Q (.panic v) h)):=by kernel_rfl
theorem C11 (Q:AEnd→AH→Prop) (a0 a1:V) (h:AH) (c :
 ACalls Pg 46 [a0] h (aEnd (fun v1 h2 =>
 ACalls Pg 46 [v1] h2 (aEnd (fun v3 h4 =>
 ACalls Pg 49 [v3] h4 (aEnd (fun v5 h6 =>
 bindV (still (aExtract v5 0) h6) fun v7 h8 =>
 bindV (still (aExtract v5 1) h8) fun v9 h10 =>
 bindV (still (aBin Pg .eql 29 v9 (V.int .i64 0) true) h10) fun v11 h12 =>
 vcIf v11 (
 ACalls Pg 43 [v7] h12 (aEnd (fun v13 h14 =>
 bindV (still (aExtract v13 0) h14) fun v15 h16 =>
 bindV (still (aExtract v13 1) h16) fun v17 h18 =>
 bindV (still (aExtract v13 2) h18) fun v19 h20 =>
 bindV (still (aBin Pg .neq 29 v19 (V.int .i64 0) true) h20) fun v21 h22 =>
 vcG v21 false (
 bindV (still (aBin Pg .neq 3 v17 (V.int .i64 0) true) h22) fun v71 h72 =>
 Meet (Gz2 Q v1 a1 v15 v21 v71 h72)) (Meet (Gz2 Q v1 a1 v15 v21 hole h22))) fun v h=>Q (.panic v) h)) (
 Meet (Jz1u Q a1 h12))) fun v h=>Q (.panic v) h)) fun v h=>Q (.panic v) h)) fun v h=>Q (.panic v) h)):ACalls Pg 11 [a0,a1] h Q :=
 acalls_of_vc okP Tryz.func11 (show Tryz.f11.body=some B11 from by kernel_rfl) K11 (by rw [← S11 Q a0 a1 h] at c;exact c)
noncomputable def B43:Code:=(Tryz.f43.body).getD .skip
def R43:List ResultVar:=[.tmp 2,.tmp 3,.tmp 4]
abbrev N43:Nat:=46
def K43:KT:=(.seq .leaf (.join (.seq .leaf (.two (.seq .leaf .leaf [2,3,4]) .leaf) [0,14]) (.seq .leaf (.join (.seq .leaf (.one (.loop (.join (.seq .leaf (.two .leaf .leaf) [0,5,6,16]) (.join (.one (.seq .leaf (.join (.seq .leaf (.two (.seq .leaf .leaf [2,3,4]) .leaf) [5,6,7,8,9,26]) (.seq .leaf (.join (.join (.reg [[5,6,8,10,35,37]]) (.two (.seq .leaf .leaf [2,3,4]) .leaf) [5,6,8,10,38]) (.seq .leaf .leaf [5,6,8]) [5,6,8,10]) [5,6,8,9,10,11]) [5,6,7,8,9]) [5,6,7,8,9])) .leaf [0,5,6]) [0,5,6]) [0,5,6])) [0,5,6]) (.seq .leaf .leaf [2,3,4]) [5]) [0,5]) [0]) [0])
def Jz37 (Q:AEnd→AH→Prop) (n:Nat) (x0 x5 x6:V) (h:AH):Prop:=vcAt Pg N43 B43 K43 [1,1,1,0,1,0,0,1,1] [n] (vcRet Pg R43 Q) [(0,x0),(5,x5),(6,x6)] h
def Jz36 (Q:AEnd→AH→Prop) (n:Nat) (x5 x6 x8 x10:V) (h:AH):Prop:=vcAt Pg N43 B43 K43 [1,1,1,0,1,0,0,1,0,0,1,1,1,1] [n] (vcRet Pg R43 Q) [(5,x5),(6,x6),(8,x8),(10,x10)] h
def Jz35 (Q:AEnd→AH→Prop) (n:Nat) (x5 x6 x8 x10 x38:V) (h:AH):Prop:=vcAt Pg N43 B43 K43 [1,1,1,0,1,0,0,1,0,0,1,1,1,0,1] [n] (vcRet Pg R43 Q) [(5,x5),(6,x6),(8,x8),(10,x10),(38,x38)] h
def Gz15 (Q:AEnd→AH→Prop) (n:Nat) (x5 x6 x8 x10 x35 x37:V) (h:AH):Prop:=segAt Pg N43 B43 K43 [1,1,1,0,1,0,0,1,0,0,1,1,1,0,0] 2 1 [n] (vcRet Pg R43 Q) [(5,x5),(6,x6),(8,x8),(10,x10),(35,x35),(37,x37)] h
def Jz34 (Q:AEnd→AH→Prop) (n:Nat) (x5 x6 x7 x8 x9:V) (h:AH):Prop:=vcAt Pg N43 B43 K43 [1,1,1,0,1,0,0,1,0,0,1,1] [n] (vcRet Pg R43 Q) [(5,x5),(6,x6),(7,x7),(8,x8),(9,x9)] h
def Jz33 (Q:AEnd→AH→Prop) (n:Nat) (x0 x5 x6:V) (h:AH):Prop:=vcAt Pg N43 B43 K43 [1,1,1,0,1,0,0,1] [n] (vcRet Pg R43 Q) [(0,x0),(5,x5),(6,x6)] h
def Jz38 (Q:AEnd→AH→Prop) (x5:V) (h:AH):Prop:=vcAt Pg N43 B43 K43 [1,1,1,1] [] (vcRet Pg R43 Q) [(5,x5)] h
def Lz40 (Q:AEnd→AH→Prop) (n:Nat) (x0 x5 x6:V) (h:AH):Prop:=loopAt Pg N43 B43 K43 [1,1,1,0,1,0] [] n (vcRet Pg R43 Q) [(0,x0),(5,x5),(6,x6)] h
def Jz32 (Q:AEnd→AH→Prop) (x0:V) (h:AH):Prop:=vcAt Pg N43 B43 K43 [1,1] [] (vcRet Pg R43 Q) [(0,x0)] h
theorem Jz37_eq (Q:AEnd→AH→Prop) (n:Nat) (x0 x5 x6:V) (h:AH):Jz37 Q n x0 x5 x6 h=(
 bindV (still (aBin Pg .add 3 x6 (V.int .i64 1) true) h) fun v37 h38 =>
 Meet (Lz40 Q n x0 x5 v37 h38)):=by kernel_rfl
theorem Jz36_eq (Q:AEnd→AH→Prop) (n:Nat) (x5 x6 x8 x10:V) (h:AH):Jz36 Q n x5 x6 x8 x10 h=(
 bindV (aLoadV Pg h 73 x10) fun v31 h32 =>
 bindV (aBuildSlice Pg h32 84 1 [(0,v31)]) fun v33 h34 =>
 bindV (aBuiltin Pg h34 .append [84,84] [x5,v33]) fun v35 h36 =>
 Meet (Jz37 Q n x8 v35 x6 h36)):=by kernel_rfl
theorem Jz35_eq (Q:AEnd→AH→Prop) (n:Nat) (x5 x6 x8 x10 x38:V) (h:AH):Jz35 Q n x5 x6 x8 x10 x38 h=(
 vcIf x38 (
 Q (.ret (V.tup [(V.slc none 0),x6,(V.int .i64 2)])) h) (
 Meet (Jz36 Q n x5 x6 x8 x10 h))):=by kernel_rfl
theorem Gz15_eq (Q:AEnd→AH→Prop) (n:Nat) (x5 x6 x8 x10 x35 x37:V) (h:AH):Gz15 Q n x5 x6 x8 x10 x35 x37 h=(
 bindV (aPick x35 (V.bool true) x37 h) fun v29 h30 =>
 Meet (Jz35 Q n x5 x6 x8 x10 v29 h30)):=by kernel_rfl
theorem Jz34_eq (Q:AEnd→AH→Prop) (n:Nat) (x5 x6 x7 x8 x9:V) (h:AH):Jz34 Q n x5 x6 x7 x8 x9 h=(
 ACalls Pg 112 [x7] h (aEnd (fun v17 h18 =>
 bindV (still (aExtract v17 0) h18) fun v19 h20 =>
 bindV (still (aExtract v17 1) h20) fun v21 h22 =>
 bindV (aAlloc Pg h22 73) fun v23 h24 =>
 bindV (aStoreV Pg h24 73 v23 v19) fun _ h26 =>
 bindV (still (aUn .not x9) h26) fun v27 h28 =>
 vcG v27 false (
 bindV (still (aUn .not v21) h28) fun v39 h40 =>
 Meet (Gz15 Q n x5 x6 x8 v23 v27 v39 h40)) (Meet (Gz15 Q n x5 x6 x8 v23 v27 hole h28))) fun v h=>Q (.panic v) h)):=by kernel_rfl
theorem Jz33_eq (Q:AEnd→AH→Prop) (n:Nat) (x0 x5 x6:V) (h:AH):Jz33 Q n x0 x5 x6 h=(
 ACalls Pg 111 [x0,(V.str [10])] h (aEnd (fun v7 h8 =>
 bindV (still (aExtract v7 0) h8) fun v9 h10 =>
 bindV (still (aExtract v7 1) h10) fun v11 h12 =>
 bindV (still (aExtract v7 2) h12) fun v13 h14 =>
 bindV (still (aBin Pg .gtr 3 x6 (V.int .i64 2000) true) h14) fun v15 h16 =>
 vcIf v15 (
 Q (.ret (V.tup [(V.slc none 0),x6,(V.int .i64 10)])) h16) (
 Meet (Jz34 Q n x5 x6 v9 v11 v13 h16))) fun v h=>Q (.panic v) h)):=by kernel_rfl
theorem Jz38_eq (Q:AEnd→AH→Prop) (x5:V) (h:AH):Jz38 Q x5 h=(
 Q (.ret (V.tup [x5,(V.int .i64 0),(V.int .i64 0)])) h):=by kernel_rfl
theorem Lz40_eq (Q:AEnd→AH→Prop) (n:Nat) (x0 x5 x6:V) (h:AH):Lz40 Q (n + 1) x0 x5 x6 h=(
 bindV (still (aBin Pg .neq 9 x0 (V.str []) true) h) fun v5 h6 =>
 vcIf v5 (
 Meet (Jz33 Q n x0 x5 x6 h6)) (
 Meet (Jz38 Q x5 h6))):=by kernel_rfl
theorem Jz32_eq (Q:AEnd→AH→Prop) (x0:V) (h:AH):Jz32 Q x0 h=(
 ∃ n,Meet (Lz40 Q n x0 (V.slc none 0) (V.int .i64 1) h)):=by kernel_rfl
theorem S43 (Q:AEnd→AH→Prop) (a0:V) (h:AH):vc Pg N43 B43 K43 (vcRet Pg R43 Q) (initEnv 0 [a0]) h=(
 bindV (aBuiltin Pg h .len [9] [a0]) fun v1 h2 =>
 bindV (still (aBin Pg .gtr 3 v1 (V.int .i64 131072) true) h2) fun v3 h4 =>
 vcIf v3 (
 Q (.ret (V.tup [(V.slc none 0),(V.int .i64 0),(V.int .i64 10)])) h4) (
 Meet (Jz32 Q a0 h4))):=by kernel_rfl
theorem C43 (Q:AEnd→AH→Prop) (a0:V) (h:AH) (c :
 bindV (aBuiltin Pg h .len [9] [a0]) fun v1 h2 =>
 bindV (still (aBin Pg .gtr 3 v1 (V.int .i64 131072) true) h2) fun v3 h4 =>
 vcIf v3 (
 Q (.ret (V.tup [(V.slc none 0),(V.int .i64 0),(V.int .i64 10)])) h4) (
 Meet (Jz32 Q a0 h4))):ACalls Pg 43 [a0] h Q :=
 acalls_of_vc okP Tryz.func43 (show Tryz.f43.body=some B43 from by kernel_rfl) K43 (by rw [← S43 Q a0 h] at c;exact c)
noncomputable def B45:Code:=(Tryz.f45.body).getD .skip
def R45:List ResultVar:=[.tmp 4]
abbrev N45:Nat:=81
def K45:KT:=(.seq .leaf (.join (.seq .leaf (.two (.seq .leaf .leaf [4]) .leaf) [0,1,13]) (.join (.seq .leaf (.one (.loop (.seq .leaf (.join (.two .leaf .leaf) (.join (.one (.seq .leaf (.seq (.flo [8,9,10,11] [8,9] 10) (.join (.join (.reg [[0,1,6,7,15,16,32,37],[0,1,6,7,15,16,39,44],[0,1,6,7,15,16,46,51],[0,1,6,7,15,16,53,60]]) (.two (.seq .leaf .leaf [4]) .leaf) [0,1,6,7,15,16,61]) (.seq .leaf (.one (.loop (.seq .leaf (.join (.two .leaf .leaf) (.join (.one (.seq .leaf (.seq .leaf (.two (.seq .leaf .leaf [4]) .leaf) [0,1,6,7,15,16,64,65,78]) [0,1,6,7,8,15,16,64,65])) .leaf [0,1,6,7,15,16,64,65]) [0,1,6,7,15,16,64,65]) [0,1,6,7,15,16,64,65,66]) [0,1,6,7,15,16,64,65])) [0,1,6,7,15,16,64,65]) [0,1,6,7,15,16]) [0,1,6,7,15,16]) [0,1,5,15,16])) .leaf [0,1,15,16]) [0,1,15,16]) [0,1,15,16,17]) [0,1,15,16])) [0,1,15,16]) (.seq .leaf .leaf [4]) []) [0,1]) [0,1])
def Jz3e (Q:AEnd→AH→Prop) (n n1:Nat) (x0 x1 x6 x7 x15 x16 x64 x65:V) (h:AH):Prop:=vcAt Pg N45 B45 K45 [1,1,0,1,0,0,1,1,0,0,1,1,1,1,0,0,1,1,1] [n,n1] (vcRet Pg R45 Q) [(0,x0),(1,x1),(6,x6),(7,x7),(15,x15),(16,x16),(64,x64),(65,x65)] h
def Jz3d (Q:AEnd→AH→Prop) (n n1:Nat) (x0 x1 x6 x7 x15 x16 x64 x65:V) (h:AH):Prop:=vcAt Pg N45 B45 K45 [1,1,0,1,0,0,1,1,0,0,1,1,1,1,0,0,1,1] [n,n1] (vcRet Pg R45 Q) [(0,x0),(1,x1),(6,x6),(7,x7),(15,x15),(16,x16),(64,x64),(65,x65)] h
def Jz3f (Q:AEnd→AH→Prop) (n:Nat) (x0 x1 x15 x16:V) (h:AH):Prop:=vcAt Pg N45 B45 K45 [1,1,0,1,0,0,1,1,1] [n] (vcRet Pg R45 Q) [(0,x0),(1,x1),(15,x15),(16,x16)] h
def Lz42 (Q:AEnd→AH→Prop) (n:Nat) (n1:Nat) (x0 x1 x6 x7 x15 x16 x64 x65:V) (h:AH):Prop:=loopAt Pg N45 B45 K45 [1,1,0,1,0,0,1,1,0,0,1,1,1,1,0] [n] n1 (vcRet Pg R45 Q) [(0,x0),(1,x1),(6,x6),(7,x7),(15,x15),(16,x16),(64,x64),(65,x65)] h
def Jz3c (Q:AEnd→AH→Prop) (n:Nat) (x0 x1 x6 x7 x15 x16:V) (h:AH):Prop:=vcAt Pg N45 B45 K45 [1,1,0,1,0,0,1,1,0,0,1,1,1] [n] (vcRet Pg R45 Q) [(0,x0),(1,x1),(6,x6),(7,x7),(15,x15),(16,x16)] h
def Jz3b (Q:AEnd→AH→Prop) (n:Nat) (x0 x1 x6 x7 x15 x16 x61:V) (h:AH):Prop:=vcAt Pg N45 B45 K45 [1,1,0,1,0,0,1,1,0,0,1,1,0,1] [n] (vcRet Pg R45 Q) [(0,x0),(1,x1),(6,x6),(7,x7),(15,x15),(16,x16),(61,x61)] h
def Gz19 (Q:AEnd→AH→Prop) (n:Nat) (x0 x1 x6 x7 x15 x16 x53 x60:V) (h:AH):Prop:=segAt Pg N45 B45 K45 [1,1,0,1,0,0,1,1,0,0,1,1,0,0] 8 4 [n] (vcRet Pg R45 Q) [(0,x0),(1,x1),(6,x6),(7,x7),(15,x15),(16,x16),(53,x53),(60,x60)] h
def Gz18 (Q:AEnd→AH→Prop) (n:Nat) (x0 x1 x6 x7 x15 x16 x46 x51:V) (h:AH):Prop:=segAt Pg N45 B45 K45 [1,1,0,1,0,0,1,1,0,0,1,1,0,0] 6 3 [n] (vcRet Pg R45 Q) [(0,x0),(1,x1),(6,x6),(7,x7),(15,x15),(16,x16),(46,x46),(51,x51)] h
def Gz17 (Q:AEnd→AH→Prop) (n:Nat) (x0 x1 x6 x7 x15 x16 x39 x44:V) (h:AH):Prop:=segAt Pg N45 B45 K45 [1,1,0,1,0,0,1,1,0,0,1,1,0,0] 4 2 [n] (vcRet Pg R45 Q) [(0,x0),(1,x1),(6,x6),(7,x7),(15,x15),(16,x16),(39,x39),(44,x44)] h
def Gz16 (Q:AEnd→AH→Prop) (n:Nat) (x0 x1 x6 x7 x15 x16 x32 x37:V) (h:AH):Prop:=segAt Pg N45 B45 K45 [1,1,0,1,0,0,1,1,0,0,1,1,0,0] 2 1 [n] (vcRet Pg R45 Q) [(0,x0),(1,x1),(6,x6),(7,x7),(15,x15),(16,x16),(32,x32),(37,x37)] h
def Jz3a (Q:AEnd→AH→Prop) (n:Nat) (x0 x1 x15 x16:V) (h:AH):Prop:=vcAt Pg N45 B45 K45 [1,1,0,1,0,0,1,1] [n] (vcRet Pg R45 Q) [(0,x0),(1,x1),(15,x15),(16,x16)] h
def Jz3g (Q:AEnd→AH→Prop) (h:AH):Prop:=vcAt Pg N45 B45 K45 [1,1,1] [] (vcRet Pg R45 Q) [] h
def Lz41 (Q:AEnd→AH→Prop) (n:Nat) (x0 x1 x15 x16:V) (h:AH):Prop:=loopAt Pg N45 B45 K45 [1,1,0,1,0] [] n (vcRet Pg R45 Q) [(0,x0),(1,x1),(15,x15),(16,x16)] h
def Jz39 (Q:AEnd→AH→Prop) (x0 x1:V) (h:AH):Prop:=vcAt Pg N45 B45 K45 [1,1] [] (vcRet Pg R45 Q) [(0,x0),(1,x1)] h
theorem Jz3e_eq (Q:AEnd→AH→Prop) (n n1:Nat) (x0 x1 x6 x7 x15 x16 x64 x65:V) (h:AH):Jz3e Q n n1 x0 x1 x6 x7 x15 x16 x64 x65 h=(
 bindV (still (aBin Pg .add 3 x65 (V.int .i64 1) true) h) fun v58 h59 =>
 Meet (Lz42 Q n n1 x0 x1 x6 x7 x15 x16 x64 v58 h59)):=by kernel_rfl
theorem Jz3d_eq (Q:AEnd→AH→Prop) (n n1:Nat) (x0 x1 x6 x7 x15 x16 x64 x65:V) (h:AH):Jz3d Q n n1 x0 x1 x6 x7 x15 x16 x64 x65 h=(
 bindO (fstV (still (aFieldAddr Pg 73 x6 4) h)) fun v49 =>
 bindO (fstV (aLoadV Pg h 71 v49)) fun v50 =>
 bindO (fstV (still (aIndexAddr Pg 71 v50 x65) h)) fun v51 =>
 bindO (fstV (aLoadV Pg h 4 v51)) fun v52 =>
 bindO (fstV (still (aFieldAddr Pg 73 x7 4) h)) fun v53 =>
 bindO (fstV (aLoadV Pg h 71 v53)) fun v54 =>
 bindO (fstV (still (aIndexAddr Pg 71 v54 x65) h)) fun v55 =>
 bindO (fstV (aLoadV Pg h 4 v55)) fun v56 =>
 bindO (fstV (still (aBin Pg .neq 4 v52 v56 false) h)) fun v57 =>
 vcIf v57 (
 Q (.ret (V.bool false)) h) (
 Meet (Jz3e Q n n1 x0 x1 x6 x7 x15 x16 x64 x65 h))):=by kernel_rfl
theorem Jz3f_eq (Q:AEnd→AH→Prop) (n:Nat) (x0 x1 x15 x16:V) (h:AH):Jz3f Q n x0 x1 x15 x16 h=(
 bindV (still (aBin Pg .add 3 x16 (V.int .i64 1) true) h) fun v60 h61 =>
 Meet (Lz41 Q n x0 x1 x15 v60 h61)):=by kernel_rfl
theorem Lz42_eq (Q:AEnd→AH→Prop) (n:Nat) (n1:Nat) (x0 x1 x6 x7 x15 x16 x64 x65:V) (h:AH):Lz42 Q n (n1 + 1) x0 x1 x6 x7 x15 x16 x64 x65 h=(
 bindV (still (aBin Pg .lss 3 x65 x64 false) h) fun v47 h48 =>
 vcIf v47 (
 Meet (Jz3d Q n n1 x0 x1 x6 x7 x15 x16 x64 x65 h48)) (
 Meet (Jz3f Q n x0 x1 x15 x16 h48))):=by kernel_rfl
theorem Jz3c_eq (Q:AEnd→AH→Prop) (n:Nat) (x0 x1 x6 x7 x15 x16:V) (h:AH):Jz3c Q n x0 x1 x6 x7 x15 x16 h=(
 bindV (still (aFieldAddr Pg 73 x6 4) h) fun v41 h42 =>
 bindV (aLoadV Pg h42 71 v41) fun v43 h44 =>
 bindV (aBuiltin Pg h44 .len [71] [v43]) fun v45 h46 =>
 ∃ n1,Meet (Lz42 Q n n1 x0 x1 x6 x7 x15 x16 v45 (V.int .i64 0) h46)):=by kernel_rfl
theorem Jz3b_eq (Q:AEnd→AH→Prop) (n:Nat) (x0 x1 x6 x7 x15 x16 x61:V) (h:AH):Jz3b Q n x0 x1 x6 x7 x15 x16 x61 h=(
 vcIf x61 (
 Q (.ret (V.bool false)) h) (
 Meet (Jz3c Q n x0 x1 x6 x7 x15 x16 h))):=by kernel_rfl
theorem Gz19_eq (Q:AEnd→AH→Prop) (n:Nat) (x0 x1 x6 x7 x15 x16 x53 x60:V) (h:AH):Gz19 Q n x0 x1 x6 x7 x15 x16 x53 x60 h=(
 bindV (aPick x53 (V.bool true) x60 h) fun v39 h40 =>
 Meet (Jz3b Q n x0 x1 x6 x7 x15 x16 v39 h40)):=by kernel_rfl
theorem Gz18_eq (Q:AEnd→AH→Prop) (n:Nat) (x0 x1 x6 x7 x15 x16 x46 x51:V) (h:AH):Gz18 Q n x0 x1 x6 x7 x15 x16 x46 x51 h=(
 bindV (aPick x46 (V.bool true) x51 h) fun v37 h38 =>
 vcG v37 false (
 bindV (still (aFieldAddr Pg 73 x6 4) h38) fun v62 h63 =>
 bindV (aLoadV Pg h63 71 v62) fun v64 h65 =>
 bindV (aBuiltin Pg h65 .len [71] [v64]) fun v66 h67 =>
 bindV (still (aFieldAddr Pg 73 x7 4) h67) fun v68 h69 =>
 bindV (aLoadV Pg h69 71 v68) fun v70 h71 =>
 bindV (aBuiltin Pg h71 .len [71] [v70]) fun v72 h73 =>
 bindV (still (aBin Pg .neq 3 v66 v72 false) h73) fun v74 h75 =>
 Meet (Gz19 Q n x0 x1 x6 x7 x15 x16 v37 v74 h75)) (Meet (Gz19 Q n x0 x1 x6 x7 x15 x16 v37 hole h38))):=by kernel_rfl
theorem Gz17_eq (Q:AEnd→AH→Prop) (n:Nat) (x0 x1 x6 x7 x15 x16 x39 x44:V) (h:AH):Gz17 Q n x0 x1 x6 x7 x15 x16 x39 x44 h=(
 bindV (aPick x39 (V.bool true) x44 h) fun v35 h36 =>
 vcG v35 false (
 bindV (still (aFieldAddr Pg 73 x6 3) h36) fun v76 h77 =>
 bindV (aLoadV Pg h77 57 v76) fun v78 h79 =>
 bindV (still (aFieldAddr Pg 73 x7 3) h79) fun v80 h81 =>
 bindV (aLoadV Pg h81 57 v80) fun v82 h83 =>
 bindV (still (aBin Pg .neq 57 v78 v82 false) h83) fun v84 h85 =>
 Meet (Gz18 Q n x0 x1 x6 x7 x15 x16 v35 v84 h85)) (Meet (Gz18 Q n x0 x1 x6 x7 x15 x16 v35 hole h36))):=by kernel_rfl
theorem Gz16_eq (Q:AEnd→AH→Prop) (n:Nat) (x0 x1 x6 x7 x15 x16 x32 x37:V) (h:AH):Gz16 Q n x0 x1 x6 x7 x15 x16 x32 x37 h=(
 bindV (aPick x32 (V.bool true) x37 h) fun v33 h34 =>
 vcG v33 false (
 bindV (still (aFieldAddr Pg 73 x6 2) h34) fun v86 h87 =>
 bindV (aLoadV Pg h87 3 v86) fun v88 h89 =>
 bindV (still (aFieldAddr Pg 73 x7 2) h89) fun v90 h91 =>
 bindV (aLoadV Pg h91 3 v90) fun v92 h93 =>
 bindV (still (aBin Pg .neq 3 v88 v92 false) h93) fun v94 h95 =>
 Meet (Gz17 Q n x0 x1 x6 x7 x15 x16 v33 v94 h95)) (Meet (Gz17 Q n x0 x1 x6 x7 x15 x16 v33 hole h34))):=by kernel_rfl
theorem Jz3a_eq (Q:AEnd→AH→Prop) (n:Nat) (x0 x1 x15 x16:V) (h:AH):Jz3a Q n x0 x1 x15 x16 h=(
 bindO (fstV (still (aIndexAddr Pg 84 x0 x16) h)) fun v11 =>
 bindO (fstV (aLoadV Pg h 73 v11)) fun v12 =>
 (
 bindO (fstV (still (aIndexAddr Pg 84 x1 x16) h)) fun v13 =>
 bindO (fstV (aLoadV Pg h 73 v13)) fun v14 =>
 (
 floB h (floOp Pg (fun _=>.und) (.alloc 73)) fun v15 h16=>(aLoadV Pg h16 73 v13=some (v14,h16))∧(
 floB h16 (floOp Pg (fun _=>.und) (.alloc 73)) fun v17 h18=>(aLoadV Pg h18 73 v13=some (v14,h18))∧(
 bindV (aStoreV Pg h18 73 v15 v12) fun _ h20=>(aLoadV Pg h20 73 v13=some (v14,h20))∧(
 bindV (aStoreV Pg h20 73 v17 v14) fun _ h22=>(
 bindV (still (aFieldAddr Pg 73 v15 0) h22) fun v23 h24 =>
 bindV (aLoadV Pg h24 5 v23) fun v25 h26 =>
 bindV (still (aFieldAddr Pg 73 v17 0) h26) fun v27 h28 =>
 bindV (aLoadV Pg h28 5 v27) fun v29 h30 =>
 bindV (still (aBin Pg .neq 5 v25 v29 false) h30) fun v31 h32 =>
 vcG v31 false (
 bindV (still (aFieldAddr Pg 73 v15 1) h32) fun v96 h97 =>
 bindV (aLoadV Pg h97 3 v96) fun v98 h99 =>
 bindV (still (aFieldAddr Pg 73 v17 1) h99) fun v100 h101 =>
 bindV (aLoadV Pg h101 3 v100) fun v102 h103 =>
 bindV (still (aBin Pg .neq 3 v98 v102 false) h103) fun v104 h105 =>
 Meet (Gz16 Q n x0 x1 v15 v17 x15 x16 v31 v104 h105)) (Meet (Gz16 Q n x0 x1 v15 v17 x15 x16 v31 hole h32))))))))):=by kernel_rfl
theorem Jz3g_eq (Q:AEnd→AH→Prop) (h:AH):Jz3g Q h=(
 Q (.ret (V.bool true)) h):=by kernel_rfl
theorem Lz41_eq (Q:AEnd→AH→Prop) (n:Nat) (x0 x1 x15 x16:V) (h:AH):Lz41 Q (n + 1) x0 x1 x15 x16 h=(
 bindV (still (aBin Pg .lss 3 x16 x15 false) h) fun v9 h10 =>
 vcIf v9 (
 Meet (Jz3a Q n x0 x1 x15 x16 h10)) (
 Meet (Jz3g Q h10))):=by kernel_rfl
theorem Jz39_eq (Q:AEnd→AH→Prop) (x0 x1:V) (h:AH):Jz39 Q x0 x1 h=(
 bindV (aBuiltin Pg h .len [84] [x0]) fun v7 h8 =>
 ∃ n,Meet (Lz41 Q n x0 x1 v7 (V.int .i64 0) h8)):=by kernel_rfl
theorem S45 (Q:AEnd→AH→Prop) (a0 a1:V) (h:AH):vc Pg N45 B45 K45 (vcRet Pg R45 Q) (initEnv 0 [a0,a1]) h=(
 bindV (aBuiltin Pg h .len [84] [a0]) fun v1 h2 =>
 bindV (aBuiltin Pg h2 .len [84] [a1]) fun v3 h4 =>
 bindV (still (aBin Pg .neq 3 v1 v3 false) h4) fun v5 h6 =>
 vcIf v5 (
 Q (.ret (V.bool false)) h6) (
 Meet (Jz39 Q a0 a1 h6))):=by kernel_rfl
theorem C45 (Q:AEnd→AH→Prop) (a0 a1:V) (h:AH) (c :
 bindV (aBuiltin Pg h .len [84] [a0]) fun v1 h2 =>
 bindV (aBuiltin Pg h2 .len [84] [a1]) fun v3 h4 =>
 bindV (still (aBin Pg .neq 3 v1 v3 false) h4) fun v5 h6 =>
 vcIf v5 (
 Q (.ret (V.bool false)) h6) (
 Meet (Jz39 Q a0 a1 h6))):ACalls Pg 45 [a0,a1] h Q :=
 acalls_of_vc okP Tryz.func45 (show Tryz.f45.body=some B45 from by kernel_rfl) K45 (by rw [← S45 Q a0 a1 h] at c;exact c)
noncomputable def B46:Code:=(Tryz.f46.body).getD .skip
def R46:List ResultVar:=[.tmp 2]
abbrev N46:Nat:=35
def K46:KT:=(.seq .leaf (.seq .leaf (.join (.seq .leaf (.one (.loop (.join (.join (.reg [[0,3,4,10,12]]) (.two .leaf .leaf) [0,3,4,13]) (.join (.one (.seq .leaf (.seq .leaf .leaf [0,3,4,5]) [0,3,4,5])) .leaf [0,3,4]) [0,3,4]) [0,3,4])) [0,3,4]) (.seq .leaf .leaf [2]) [3]) [0,3]) [0])
def Jz3j (Q:AEnd→AH→Prop) (n:Nat) (x0 x3 x4:V) (h:AH):Prop:=vcAt Pg N46 B46 K46 [1,1,0,1,0,0,1,1] [n] (vcRet Pg R46 Q) [(0,x0),(3,x3),(4,x4)] h
def Jz3i (Q:AEnd→AH→Prop) (n:Nat) (x0 x3 x4:V) (h:AH):Prop:=vcAt Pg N46 B46 K46 [1,1,0,1,0,0,1] [n] (vcRet Pg R46 Q) [(0,x0),(3,x3),(4,x4)] h
def Jz3k (Q:AEnd→AH→Prop) (x3:V) (h:AH):Prop:=vcAt Pg N46 B46 K46 [1,1,1] [] (vcRet Pg R46 Q) [(3,x3)] h
def Jz3h (Q:AEnd→AH→Prop) (n:Nat) (x0 x3 x4 x13:V) (h:AH):Prop:=vcAt Pg N46 B46 K46 [1,1,0,1,0,0,0,1] [n] (vcRet Pg R46 Q) [(0,x0),(3,x3),(4,x4),(13,x13)] h
def Gz1a (Q:AEnd→AH→Prop) (n:Nat) (x0 x3 x4 x10 x12:V) (h:AH):Prop:=segAt Pg N46 B46 K46 [1,1,0,1,0,0,0,0] 2 1 [n] (vcRet Pg R46 Q) [(0,x0),(3,x3),(4,x4),(10,x10),(12,x12)] h
def Lz43 (Q:AEnd→AH→Prop) (n:Nat) (x0 x3 x4:V) (h:AH):Prop:=loopAt Pg N46 B46 K46 [1,1,0,1,0] [] n (vcRet Pg R46 Q) [(0,x0),(3,x3),(4,x4)] h
theorem Jz3j_eq (Q:AEnd→AH→Prop) (n:Nat) (x0 x3 x4:V) (h:AH):Jz3j Q n x0 x3 x4 h=(
 bindV (still (aBin Pg .add 3 x4 (V.int .i64 1) true) h) fun v43 h44 =>
 Meet (Lz43 Q n x0 x3 v43 h44)):=by kernel_rfl
theorem Jz3i_eq (Q:AEnd→AH→Prop) (n:Nat) (x0 x3 x4:V) (h:AH):Jz3i Q n x0 x3 x4 h=(
 bindV (still (aIndexAddr Pg 84 x0 x4) h) fun v7 h8 =>
 bindV (aLoadV Pg h8 73 v7) fun v9 h10 =>
 bindV (aAlloc Pg h10 73) fun v11 h12 =>
 bindV (aStoreV Pg h12 73 v11 v9) fun _ h14 =>
 bindV (aBuildSlice Pg h14 71 0 []) fun v15 h16 =>
 bindV (still (aFieldAddr Pg 73 v11 4) h16) fun v17 h18 =>
 bindV (aLoadV Pg h18 71 v17) fun v19 h20 =>
 bindV (still (aFieldAddr Pg 73 v11 4) h20) fun v21 h22 =>
 bindV (aLoadV Pg h22 71 v21) fun v23 h24 =>
 bindV (aBuiltin Pg h24 .len [71] [v23]) fun v25 h26 =>
 bindV (aBuiltin Pg h26 .min [3,3] [v25,(V.int .i64 2100)]) fun v27 h28 =>
 bindV (still (aSlice Pg h28 71 v19 none (some v27)) h28) fun v29 h30 =>
 bindV (aBuiltin Pg h30 .append [71,71] [v15,v29]) fun v31 h32 =>
 bindV (still (aFieldAddr Pg 73 v11 4) h32) fun v33 h34 =>
 bindV (aStoreV Pg h34 71 v33 v31) fun _ h36 =>
 bindV (aLoadV Pg h36 73 v11) fun v37 h38 =>
 bindV (aBuildSlice Pg h38 84 1 [(0,v37)]) fun v39 h40 =>
 bindV (aBuiltin Pg h40 .append [84,84] [x3,v39]) fun v41 h42 =>
 Meet (Jz3j Q n x0 v41 x4 h42)):=by kernel_rfl
theorem Jz3k_eq (Q:AEnd→AH→Prop) (x3:V) (h:AH):Jz3k Q x3 h=(
 Q (.ret x3) h):=by kernel_rfl
theorem Jz3h_eq (Q:AEnd→AH→Prop) (n:Nat) (x0 x3 x4 x13:V) (h:AH):Jz3h Q n x0 x3 x4 x13 h=(
 vcIf x13 (
 Meet (Jz3i Q n x0 x3 x4 h)) (
 Meet (Jz3k Q x3 h))):=by kernel_rfl
theorem Gz1a_eq (Q:AEnd→AH→Prop) (n:Nat) (x0 x3 x4 x10 x12:V) (h:AH):Gz1a Q n x0 x3 x4 x10 x12 h=(
 bindV (aPick x10 x12 (V.bool false) h) fun v5 h6 =>
 Meet (Jz3h Q n x0 x3 x4 v5 h6)):=by kernel_rfl
theorem Lz43_eq (Q:AEnd→AH→Prop) (n:Nat) (x0 x3 x4:V) (h:AH):Lz43 Q (n + 1) x0 x3 x4 h=(
 bindV (aBuiltin Pg h .len [84] [x0]) fun v1 h2 =>
 bindV (still (aBin Pg .lss 3 x4 v1 false) h2) fun v3 h4 =>
 vcG v3 true (
 bindV (still (aBin Pg .lss 3 x4 (V.int .i64 2100) true) h4) fun v45 h46 =>
 Meet (Gz1a Q n x0 x3 x4 v3 v45 h46)) (Meet (Gz1a Q n x0 x3 x4 v3 hole h4))):=by kernel_rfl
theorem S46 (Q:AEnd→AH→Prop) (a0:V) (h:AH):vc Pg N46 B46 K46 (vcRet Pg R46 Q) (initEnv 0 [a0]) h=(
 ∃ n,Meet (Lz43 Q n a0 (V.slc none 0) (V.int .i64 0) h)):=by kernel_rfl
theorem C46 (Q:AEnd→AH→Prop) (a0:V) (h:AH) (c :
 ∃ n,Meet (Lz43 Q n a0 (V.slc none 0) (V.int .i64 0) h)):ACalls Pg 46 [a0] h Q :=
 acalls_of_vc okP Tryz.func46 (show Tryz.f46.body=some B46 from by kernel_rfl) K46 (by rw [← S46 Q a0 h] at c;exact c)
noncomputable def B49:Code:=(Tryz.f49.body).getD .skip
def R49:List ResultVar:=[.tmp 2,.tmp 3]
abbrev N49:Nat:=32
def K49:KT:=(.seq .leaf (.join (.seq .leaf (.two (.seq .leaf .leaf [2,3]) .leaf) [0,11]) (.seq .leaf (.join (.seq .leaf (.one (.loop (.seq .leaf (.join (.two .leaf .leaf) (.join (.one (.seq .leaf (.seq .leaf (.join (.seq .leaf (.two (.seq .leaf .leaf [2,3]) .leaf) [4,7,12,13,14,24]) (.seq .leaf (.seq .leaf (.two (.seq .leaf .leaf [2,3]) .leaf) [4,12,13,14,29]) [4,12,13,14]) [4,7,12,13,14]) [4,7,8,12,13,14]) [4,6,12,13,14])) .leaf [4,12,13,14]) [4,12,13,14]) [4,12,13,14,15]) [4,12,13,14])) [4,12,13,14]) (.seq .leaf .leaf [2,3]) [4]) [0,4]) [0]) [0])
def Jz3o (Q:AEnd→AH→Prop) (n:Nat) (x4 x12 x13 x14:V) (h:AH):Prop:=vcAt Pg N49 B49 K49 [1,1,1,0,1,0,0,1,1,1] [n] (vcRet Pg R49 Q) [(4,x4),(12,x12),(13,x13),(14,x14)] h
def Jz3n (Q:AEnd→AH→Prop) (n:Nat) (x4 x7 x12 x13 x14:V) (h:AH):Prop:=vcAt Pg N49 B49 K49 [1,1,1,0,1,0,0,1,1,0,0,1,1,1] [n] (vcRet Pg R49 Q) [(4,x4),(7,x7),(12,x12),(13,x13),(14,x14)] h
def Jz3m (Q:AEnd→AH→Prop) (n:Nat) (x4 x12 x13 x14:V) (h:AH):Prop:=vcAt Pg N49 B49 K49 [1,1,1,0,1,0,0,1,1] [n] (vcRet Pg R49 Q) [(4,x4),(12,x12),(13,x13),(14,x14)] h
def Jz3p (Q:AEnd→AH→Prop) (x4:V) (h:AH):Prop:=vcAt Pg N49 B49 K49 [1,1,1,1] [] (vcRet Pg R49 Q) [(4,x4)] h
def Lz44 (Q:AEnd→AH→Prop) (n:Nat) (x4 x12 x13 x14:V) (h:AH):Prop:=loopAt Pg N49 B49 K49 [1,1,1,0,1,0] [] n (vcRet Pg R49 Q) [(4,x4),(12,x12),(13,x13),(14,x14)] h
def Jz3l (Q:AEnd→AH→Prop) (x0:V) (h:AH):Prop:=vcAt Pg N49 B49 K49 [1,1] [] (vcRet Pg R49 Q) [(0,x0)] h
theorem Jz3o_eq (Q:AEnd→AH→Prop) (n:Nat) (x4 x12 x13 x14:V) (h:AH):Jz3o Q n x4 x12 x13 x14 h=(
 bindV (still (aBin Pg .add 3 x14 (V.int .i64 1) true) h) fun v37 h38 =>
 Meet (Lz44 Q n x4 x12 x13 v37 h38)):=by kernel_rfl
theorem Jz3n_eq (Q:AEnd→AH→Prop) (n:Nat) (x4 x7 x12 x13 x14:V) (h:AH):Jz3n Q n x4 x7 x12 x13 x14 h=(
 bindV (still (aBin Pg .add 9 x7 (V.str [10]) true) h) fun v29 h30 =>
 ACalls Pg 123 [x4,v29] h30 (aEnd (fun v31 h32 =>
 ACalls Pg 124 [x4] h32 (aEnd (fun v33 h34 =>
 bindV (still (aBin Pg .gtr 3 v33 (V.int .i64 131072) true) h34) fun v35 h36 =>
 vcIf v35 (
 Q (.ret (V.tup [(V.str []),(V.int .i64 10)])) h36) (
 Meet (Jz3o Q n x4 x12 x13 x14 h36))) fun v h=>Q (.panic v) h)) fun v h=>Q (.panic v) h)):=by kernel_rfl
theorem Jz3m_eq (Q:AEnd→AH→Prop) (n:Nat) (x4 x12 x13 x14:V) (h:AH):Jz3m Q n x4 x12 x13 x14 h=(
 bindV (still (aIndexAddr Pg 84 x12 x14) h) fun v11 h12 =>
 bindV (aLoadV Pg h12 73 v11) fun v13 h14 =>
 bindV (aAlloc Pg h14 73) fun v15 h16 =>
 bindV (aStoreV Pg h16 73 v15 v13) fun _ h18 =>
 bindV (aLoadV Pg h18 73 v15) fun v19 h20 =>
 ACalls Pg 122 [v19] h20 (aEnd (fun v21 h22 =>
 bindV (still (aExtract v21 0) h22) fun v23 h24 =>
 bindV (still (aExtract v21 1) h24) fun v25 h26 =>
 bindV (still (aUn .not v25) h26) fun v27 h28 =>
 vcIf v27 (
 Q (.ret (V.tup [(V.str []),(V.int .i64 1)])) h28) (
 Meet (Jz3n Q n x4 v23 x12 x13 x14 h28))) fun v h=>Q (.panic v) h)):=by kernel_rfl
theorem Jz3p_eq (Q:AEnd→AH→Prop) (x4:V) (h:AH):Jz3p Q x4 h=(
 ACalls Pg 125 [x4] h (aEnd (fun v39 h40 =>
 Q (.ret (V.tup [v39,(V.int .i64 0)])) h40) fun v h=>Q (.panic v) h)):=by kernel_rfl
theorem Lz44_eq (Q:AEnd→AH→Prop) (n:Nat) (x4 x12 x13 x14:V) (h:AH):Lz44 Q (n + 1) x4 x12 x13 x14 h=(
 bindV (still (aBin Pg .lss 3 x14 x13 false) h) fun v9 h10 =>
 vcIf v9 (
 Meet (Jz3m Q n x4 x12 x13 x14 h10)) (
 Meet (Jz3p Q x4 h10))):=by kernel_rfl
theorem Jz3l_eq (Q:AEnd→AH→Prop) (x0:V) (h:AH):Jz3l Q x0 h=(
 bindV (aAlloc Pg h 233) fun v5 h6 =>
 bindV (aBuiltin Pg h6 .len [84] [x0]) fun v7 h8 =>
 ∃ n,Meet (Lz44 Q n v5 x0 v7 (V.int .i64 0) h8)):=by kernel_rfl
theorem S49 (Q:AEnd→AH→Prop) (a0:V) (h:AH):vc Pg N49 B49 K49 (vcRet Pg R49 Q) (initEnv 0 [a0]) h=(
 bindV (aBuiltin Pg h .len [84] [a0]) fun v1 h2 =>
 bindV (still (aBin Pg .gtr 3 v1 (V.int .i64 2000) true) h2) fun v3 h4 =>
 vcIf v3 (
 Q (.ret (V.tup [(V.str []),(V.int .i64 10)])) h4) (
 Meet (Jz3l Q a0 h4))):=by kernel_rfl
theorem C49 (Q:AEnd→AH→Prop) (a0:V) (h:AH) (c :
 bindV (aBuiltin Pg h .len [84] [a0]) fun v1 h2 =>
 bindV (still (aBin Pg .gtr 3 v1 (V.int .i64 2000) true) h2) fun v3 h4 =>
 vcIf v3 (
 Q (.ret (V.tup [(V.str []),(V.int .i64 10)])) h4) (
 Meet (Jz3l Q a0 h4))):ACalls Pg 49 [a0] h Q :=
 acalls_of_vc okP Tryz.func49 (show Tryz.f49.body=some B49 from by kernel_rfl) K49 (by rw [← S49 Q a0 h] at c;exact c)
end Go.Proofs.YtcglbpjpbjaecaaGreat.Sh
namespace Go.Proofs.YtcglbpjpbjaecaaGreat.Sh
open Go Go.Ab Go.RowKit
open Go.Proofs.YtcglbpjpbjaecaaGreat.Ru (Pg okP)
open Go.Proofs.YtcglbpjpbjaecaaGreat.Sj (bp BldF writeF stringF lenP bldF_new)
set_option maxRecDepth 10000
theorem z73:zeroV Pg 73=some (.agg [(.int .u8 0),(.int .i64 0),(.int .i64 0),(.agg [(.int .u8 0),(.int .u64 0),(.int .u16 0),(.int .i64 0),(.str [])]),(.slc none 0)]):=by kernel_rfl
theorem zs73:hasShape Pg (.agg [(.int .u8 0),(.int .i64 0),(.int .i64 0),(.agg [(.int .u8 0),(.int .u64 0),(.int .u16 0),(.int .i64 0),(.str [])]),(.slc none 0)]) 73=true:=by kernel_rfl
theorem z233:zeroV Pg 233=some (.agg [(.ptr none),(.slc none 0)]):=by kernel_rfl
theorem zs233:hasShape Pg (.agg [(.ptr none),(.slc none 0)]) 233=true:=by kernel_rfl
section
variable (l:List Ev) (hl:l.length≤2000) (hok:∀ e∈l,e.ok) {v:V} {h0:AH} {x:V} (hsc:ScrB h0 x l)
include hl hok hsc
theorem loop49 {nb:Nat}:∀ (j i:Nat) (out:List UInt8) (h:AH) (m:Nat),i≤l.length→l.length - i=j→j < m→out.length≤131072→BldF h nb out h0.next→h0.next≤nb∧nb < h.next→h0.next≤h.next→(∀ n,n < h0.next→h.m n=h0.m n)→prV (printL (l.drop i) out)=v→Lz44 (Ends v h0) m (bp nb) x (.int .i64 l.length) (.int .i64 i) h:=by
 obtain ⟨ax,hax⟩:=hsc.shape
 intro j
 induction j with
 | zero =>
   intro i out h m hi hj hm ho hB hnb hn fr hv
   obtain ⟨m,rfl⟩:∃ j,m=j + 1:=⟨m - 1,by omega⟩
   rw [List.drop_of_length_le (by omega),printL] at hv
   rw [Lz44_eq]
   refine bindS_mk (b_lss) ?_
   refine i_split (fun c1=>?_) (fun c1=>?_)
   · try rw [c1]
     replace c1:=of_decide_eq_true c1
     exfalso;omega
   · try rw [c1]
     replace c1:=of_decide_eq_false c1
     refine Meet.of (cast_p (Jz3p_eq _ _ _) ?_)
     refine callQ (stringF nb h0.next out (by omega) hB) fun h2 q2=>?_
     have fS2:=fun k (hk:k < h0.next)=>(q2.2 k hk).trans (fr k hk)
     exact ⟨congrArg AEnd.ret hv,fS2⟩
 | succ j ih =>
   intro i out h m hi hj hm ho hB hnb hn fr hv
   obtain ⟨m,rfl⟩:∃ j,m=j + 1:=⟨m - 1,by omega⟩
   obtain ⟨e,he⟩:∃ e,l[i]?=some e:=⟨l[i]'(by omega),List.getElem?_eq_getElem (by omega)⟩
   have ok:e.ok:=hok e (List.mem_of_getElem? he)
   have hd:l.drop i=e :: l.drop (i + 1):=drop_at' he
   obtain ⟨nS,xs,k,hnS,hx0,hS0,hx,hk⟩:=hsc.at he
   obtain ⟨a,rfl⟩:=hk.shape
   have hS:=(fr nS hnS).trans hS0
   rw [Lz44_eq]
   refine bindS_mk (b_lss) ?_
   refine (show decide (((i:Nat):Int) < ((l.length:Nat):Int))=true from decide_eq_true (by omega))▸i_t ?_
   subst hx0
   refine Meet.of ?_
   rw [Jz3m_eq]
   refine bindS_mk (ia_slc _ (by kernel_rfl) (by omega) (by omega)) ?_
   refine bindV_mk (ld_mk hS (by kernel_rfl) (getV_row (by rw [show 0 + ((i:Nat):Int).toNat=i by omega];exact hx))) ?_
   refine bindE (al_at z73 zs73) fun h1 u1=>?_
   have n1:=u1.next
   have fFR_1:=fun k (hk:k < h0.next)=>(u1.other k (by omega)).trans (fr k hk)
   have fF2_1:=fun k (hk:k < h.next)=>(u1.other k (by omega)).trans ((fun n (_:n < h.next)=>rfl) k hk)
   have fS_1:=(u1.other _ (by omega)).trans hS
   have f1_1:=u1.at_
   refine bindE (st_at f1_1 (by kernel_rfl) rfl (s73 e a _) rfl) fun h2 u2=>?_
   have n2:=u2.next
   have fFR_2:=fun k (hk:k < h0.next)=>(u2.other k (by omega)).trans (fFR_1 k hk)
   have fF2_2:=fun k (hk:k < h.next)=>(u2.other k (by omega)).trans (fF2_1 k hk)
   have fS_2:=(u2.other _ (by omega)).trans fS_1
   have f1_2:=u2.at_
   refine bindV_mk (ld_mk f1_2 (by kernel_rfl) rfl) ?_
   refine callS (lineP e ok (hk.keep (by omega) fFR_2)) ?_
   refine bindS_mk (show aExtract _ _=some _ from rfl) ?_
   refine bindS_mk (show aExtract _ _=some _ from rfl) ?_
   refine bindS_mk (u_not) ?_
   refine i_split (fun c3=>?_) (fun c3=>?_)
   · try rw [c3]
     have hf:¬ e.fine:=of_decide_eq_false (by simpa only [Bool.not_eq_true'] using c3)
     rw [hd,printL,if_neg hf] at hv
     first | rw [if_pos (by simp at *;omega)] at hv | skip
     exact ⟨congrArg AEnd.ret hv,fFR_2⟩
   · try rw [c3]
     have hf:e.fine:=of_decide_eq_true (by simpa only [Bool.not_eq_false'] using c3)
     rw [hd,printL,if_pos hf] at hv
     rw [if_pos hf]
     refine Meet.of (cast_p (Jz3n_eq _ _ _ _ _ _ _ _) ?_)
     refine bindS_mk (t_add (by have:=txt_len ok hf;simp;omega)) ?_
     have htl:=txt_len ok hf
     refine callQ (writeF nb h0.next out (e.txt++[10]) (by simp) (by simp;omega) (hB.keep (by omega) fF2_2) (by omega)) fun h4 q4=>?_
     obtain ⟨hB4,hn4,fw4⟩:=q4
     have fS4:=fun k (hk:k < h0.next)=>(fw4 k hk).trans (fFR_2 k hk)
     refine callS (lenP nb _ hB4.bld) ?_
     refine bindS_mk (b_gtr) ?_
     refine i_split (fun c5=>?_) (fun c5=>?_)
     · try rw [c5]
       replace c5:=of_decide_eq_true c5
       first | rw [if_pos (by simp at *;omega)] at hv | skip
       exact ⟨congrArg AEnd.ret hv,fS4⟩
     · try rw [c5]
       replace c5:=of_decide_eq_false c5
       refine Meet.of (cast_p (Jz3o_eq _ _ _ _ _ _ _) ?_)
       first | refine bindS_mk (w_add (by first | exact wrap_i64 (by omega) (by omega) | exact wr_u8 (by omega) (by omega) | exact wr_u16 (by omega) (by omega) | exact wr_u32 (by omega) (by omega) | exact wr_u64 (by omega) (by omega))) ?_ | refine bindS_mk (b_add) ?_
       rw [if_neg (by simp at *;omega)] at hv
       refine Meet.of ((congrArg (fun y:Int=>Lz44 (Ends v h0) m (bp nb) _ (.int .i64 l.length) (.int .i64 y) _) (show ((i:Nat):Int) + 1=((i + 1:Nat):Int) by omega)).mpr (ih (i + 1) _ _ m (by omega) (by omega) (by omega) (by simp at *;omega) hB4 (by omega) (by omega) fS4 hv))
end
theorem prV_old (x:List UInt8 × Int) (m:Nat→Bool):oldV m (prV x)=true:=rfl
theorem printP (l:List Ev) (hok:∀ e∈l,e.ok) {h0:AH} {x:V} (hsc:ScrB h0 x l):ACalls Pg 49 [x] h0 (pureE (prV (printF l)) h0):=by
 refine acalls_forget (prV_old _ _) ?_
 show ACalls Pg 49 [x] h0 (Ends (prV (printF l)) h0)
 obtain ⟨ax,rfl⟩:=hsc.shape
 refine C49 _ _ _ ?_
 refine bindV_mk (len_slc (by kernel_rfl)) ?_
 refine bindS_mk (b_gtr) ?_
 refine i_split (fun c1=>?_) (fun c1=>?_)
 · try rw [c1]
   replace c1:=of_decide_eq_true c1
   rw [printF,if_pos (by omega)];exact ⟨rfl,(fun n (_:n < h0.next)=>rfl)⟩
 · try rw [c1]
   replace c1:=of_decide_eq_false c1
   refine Meet.of (cast_p (Jz3l_eq _ _ _) ?_)
   refine bindE (al_at z233 zs233) fun h2 u2=>?_
   have n2:=u2.next
   have fFR_2:=fun k (hk:k < h0.next)=>(u2.other k (by omega)).trans ((fun n (_:n < h0.next)=>rfl) k hk)
   have f2_2:=u2.at_
   refine bindV_mk (len_slc (by kernel_rfl)) ?_
   rw [printF,if_neg (by omega)]
   exact ⟨l.length + 1,Meet.of (loop49 l (by omega) hok hsc l.length 0 [] _ _ (by omega) (by omega) (by omega) (by simp) (bldF_new (by omega) f2_2) (by omega) (by omega) fFR_2 rfl)⟩
end Go.Proofs.YtcglbpjpbjaecaaGreat.Sh
namespace Go.Proofs.YtcglbpjpbjaecaaGreat.Sh
open Go Go.Ab Go.RowKit
open Go.Proofs.YtcglbpjpbjaecaaGreat.Ru (Pg okP)
set_option maxRecDepth 10000
section
variable (l:List Ev) (hl:l.length≤2000) (hok:∀ e∈l,e.ok) (hkl:∀ e∈l,e.keep.length≤300000) {v:V} {h:AH} {x:V} (hsc:ScrB h x l)
include hl hok hkl hsc
end
end Go.Proofs.YtcglbpjpbjaecaaGreat.Sh
namespace Go.Proofs.YtcglbpjpbjaecaaGreat.Sh
open Go Go.Ab Go.RowKit
open Go.Proofs.YtcglbpjpbjaecaaGreat.Ru (Pg okP)
set_option maxRecDepth 10000
def RowB (e:TypeId) (h:AH) (x:V) (xs:List V):Prop :=
 (x=.slc none 0∧xs=[])∨∃ n,n < h.next∧x=.slc (some (⟨n,.row e,[]⟩,0)) xs.length∧h.m n=some (.cells true (.row e) (.agg xs))
def Young (e b0:Nat) (x:V):Prop:=∀ k,k < b0→∀ len,x≠.slc (some (⟨k,.row e,[]⟩,0)) len
theorem RowB.app {e t xt:TypeId} {h:AH} {x y:V} {xs ws:List V} (b:RowB e h x xs) (hc:apOk Pg t xt e=true) (hy:aElems Pg h e y=some ws) (hw:ws≠[]) (hl:(xs.length + ws.length) * Pg.bytesOf e≤140737488355328) :
   ∃ v h',aBuiltin Pg h .append [t,xt] [x,y]=some (v,h')∧RowB e h' v (xs++ws)∧h'.next=h.next + 1∧(∀ k,k < h.next→(∀ len,x≠.slc (some (⟨k,.row e,[]⟩,0)) len)→h'.m k=h.m k)∧Young e h.next v:=by
 rcases b with ⟨rfl,rfl⟩ | ⟨n,h1,rfl,h3⟩
 · obtain ⟨h',e1,u⟩:=apN_at (n:=0) hc hy hw (by simpa using hl)
   refine ⟨_,h',e1,.inr ⟨h.next,by rw [u.next];omega,rfl,u.at_⟩,u.next,fun k hk _=>u.other k hk,fun k hk len q=>?_⟩
   simp only [V.slc.injEq,Option.some.injEq,Prod.mk.injEq,PA.mk.injEq] at q
   omega
 · obtain ⟨h',e1,u⟩:=apR_at (i:=0) (n:=xs.length) hc h1 h3 (by omega) hy hw hl
   refine ⟨_,h',e1,.inr ⟨h.next,by rw [u.next];omega,by rw [List.length_append],?_⟩,u.next,fun k hk hne=>u.other k hk (fun q=>by subst q;exact hne _ rfl),fun k hk len q=>?_⟩
   · rw [u.at_,List.drop_zero,List.take_of_length_le (by omega)]
   · simp only [V.slc.injEq,Option.some.injEq,Prod.mk.injEq,PA.mk.injEq] at q
     omega
theorem keepB_row {h:AH} {k:V} {l:List Bool} (b:RowB 4 h k (boolsV l)):KeepB h k l:=by
 rcases b with ⟨rfl,h2⟩ | ⟨n,h1,rfl,h3⟩
 · refine .inl ⟨rfl,?_⟩
   cases l with
   | nil=>rfl
   | cons a l=>cases h2
 · exact .inr ⟨n,h1,by rw [boolsV_len],h3⟩
theorem KeepB.keepT {h h':AH} {k:V} {l:List Bool} (b:KeepB h k l) (hn:h.next≤h'.next) (hk:∀ n xs,n < h.next→h.m n=some (.cells true (.row 4) xs)→h'.m n=h.m n):KeepB h' k l:=by
 rcases b with ⟨rfl,rfl⟩ | ⟨n,h1,rfl,h3⟩
 · exact .inl ⟨rfl,rfl⟩
 · exact .inr ⟨n,by omega,rfl,(hk n _ h1 h3).trans h3⟩
theorem EvsAt.keepT {h h':AH} {xs:List V} {l:List Ev} (b:EvsAt h xs l) (hn:h.next≤h'.next) (hk:∀ n xs,n < h.next→h.m n=some (.cells true (.row 4) xs)→h'.m n=h.m n):EvsAt h' xs l :=
 ⟨b.1,fun i e he=>let ⟨k,h1,h2⟩:=b.2 i e he;⟨k,h1,h2.keepT hn hk⟩⟩
theorem EvsAt.snoc {h:AH} {xs:List V} {l:List Ev} (b:EvsAt h xs l) {e:Ev} {k:V} (hk:KeepB h k e.keep):EvsAt h (xs++[evV e k]) (l++[e]):=by
 refine ⟨by simp [b.1],fun i e' he=>?_⟩
 rcases Nat.lt_or_ge i l.length with hi | hi
 · rw [List.getElem?_append_left hi] at he
   obtain ⟨k',q1,q2⟩:=b.2 i e' he
   exact ⟨k',by rw [List.getElem?_append_left (by rw [b.1];exact hi)];exact q1,q2⟩
 · have hi2:i=l.length:=by
     have:=(List.getElem?_eq_some_iff.1 he).1
     simp at this;omega
   subst hi2
   rw [List.getElem?_append_right (by omega)] at he
   simp at he
   subst he
   exact ⟨k,by rw [List.getElem?_append_right (by rw [b.1];omega),b.1];simp,hk⟩
theorem scrB_row {h:AH} {x:V} {xs:List V} {l:List Ev} (b:RowB 73 h x xs) (e:EvsAt h xs l):ScrB h x l:=by
 rcases b with ⟨rfl,rfl⟩ | ⟨n,h1,rfl,h3⟩
 · exact .inl ⟨rfl,List.length_eq_zero_iff.1 (by rw [← e.1];rfl)⟩
 · exact .inr ⟨n,xs,h1,by rw [e.1],h3,e⟩
def KeepA (h:AH) (k:V) (l:List Bool):Prop :=
 (k=.slc none 0∧l=[])∨∃ n own,n < h.next∧k=.slc (some (⟨n,.row 4,[]⟩,0)) l.length∧h.m n=some (.cells own (.row 4) (.agg (boolsV l)))
theorem KeepB.any {h:AH} {k:V} {l:List Bool} (b:KeepB h k l):KeepA h k l:=by
 rcases b with ⟨rfl,rfl⟩ | ⟨n,h1,rfl,h3⟩
 · exact .inl ⟨rfl,rfl⟩
 · exact .inr ⟨n,true,h1,rfl,h3⟩
theorem KeepA.shape {h:AH} {k:V} {l:List Bool} (b:KeepA h k l):∃ a,k=.slc a l.length:=by
 rcases b with ⟨rfl,rfl⟩ | ⟨n,_,_,rfl,_⟩ <;> exact ⟨_,rfl⟩
def ScrA (h:AH) (x:V) (l:List Ev):Prop :=
 (x=.slc none 0∧l=[])∨∃ n own xs,n < h.next∧x=.slc (some (⟨n,.row 73,[]⟩,0)) l.length∧h.m n=some (.cells own (.row 73) (.agg xs)) ∧
   xs.length=l.length∧∀ (i:Nat) (e:Ev),l[i]?=some e→∃ k,xs[i]?=some (evV e k)∧KeepA h k e.keep
theorem ScrB.any {h:AH} {x:V} {l:List Ev} (b:ScrB h x l):ScrA h x l:=by
 rcases b with ⟨rfl,rfl⟩ | ⟨n,xs,h1,rfl,h3,h4⟩
 · exact .inl ⟨rfl,rfl⟩
 · exact .inr ⟨n,true,xs,h1,rfl,h3,h4.1,fun i e he=>let ⟨k,q1,q2⟩:=h4.2 i e he;⟨k,q1,q2.any⟩⟩
theorem ScrA.shape {h:AH} {x:V} {l:List Ev} (b:ScrA h x l):∃ a,x=.slc a l.length:=by
 rcases b with ⟨rfl,rfl⟩ | ⟨n,_,_,_,rfl,_⟩ <;> exact ⟨_,rfl⟩
def Ev.cut (e:Ev):Ev:={ e with keep:=e.keep.take 2100 }
def keptF (l:List Ev):List Ev:=(l.take 2100).map Ev.cut
theorem cut_ok {e:Ev} (ok:e.ok):e.cut.ok:=⟨ok.1,ok.2,ok.3,ok.4,ok.5,ok.6,ok.7,ok.8,by have:=ok.9;simp [Ev.cut];omega⟩
theorem cut_cut (e:Ev):e.cut.cut=e.cut:=by simp [Ev.cut,List.take_take]
theorem min21 (n:Nat) (h:AH):aBuiltin Pg h .min [3,3] [.int .i64 n,.int .i64 2100]=some (.int .i64 ((min n 2100:Nat):Int),h):=by
 have e:aBuiltin Pg h .min [3,3] [.int .i64 n,.int .i64 2100]=still (aMinMax false [.int .i64 n,.int .i64 2100]) h:=rfl
 have e2:aMinMax false [.int .i64 n,.int .i64 2100]=some (.int .i64 (if (2100:Int) < n then 2100 else n)):=rfl
 have e3:(if (2100:Int) < n then 2100 else (n:Int))=((min n 2100:Nat):Int):=by split <;> omega
 rw [e,e2,e3];rfl
theorem sl71 {h:AH} {k:V} {l:List Bool} (b:KeepA h k l) (m:Nat) (hm:m≤l.length) :
   ∃ w,aSlice Pg h 71 k none (some (.int .i64 m))=some w∧aElems Pg h 4 w=some (boolsV (l.take m)):=by
 have hu:ul Pg 71=some (.slice 4):=by kernel_rfl
 have hu4:(ul Pg 4).isSome=true:=by kernel_rfl
 have hb:bnd (some (.int .i64 (m:Int))) 0=some m:=by rw [bnd_i (by omega)];simp
 rcases b with ⟨rfl,rfl⟩ | ⟨n,own,h1,rfl,h3⟩
 · have hm0:m=0:=by simpa using hm
   subst hm0
   refine ⟨.slc none 0,?_,rfl⟩
   have hb0:bnd none 0=some 0:=rfl
   simp only [aSlice,hu,hb,hb0,hu4,and_self,if_true]
 · have hb2:bnd (some (.int .i64 (m:Int))) l.length=some m:=by rw [bnd_i (by omega)];simp
   have hb0:bnd none 0=some 0:=rfl
   refine ⟨.slc (some (⟨n,.row 4,[]⟩,0)) m,?_,?_⟩
   · have hr:Go.Ab.rowAt Pg (.row 4) []=some (0,4):=rfl
     simp only [aSlice,hu,hb2,hb0,hr,hu4]
     rw [if_pos ⟨trivial,by omega,hm,trivial⟩]
     simp
   · have hr:Go.Ab.rowAt Pg (.row 4) []=some (0,4):=rfl
     have hg:getV (.agg (boolsV l)) []=some (.agg (boolsV l)):=rfl
     simp only [aElems,h3,if_true,hr,hg]
     rw [if_pos ⟨trivial,by rw [boolsV_len];omega⟩]
     simp [boolsV,List.map_take]
end Go.Proofs.YtcglbpjpbjaecaaGreat.Sh
namespace Go.Proofs.YtcglbpjpbjaecaaGreat.Sh
open Go Go.Ab Go.RowKit
open Go.Proofs.YtcglbpjpbjaecaaGreat.Ru (Pg okP)
set_option maxRecDepth 10000
def EventEnd (e:Ev) (s:List UInt8) (h0:AH):AEnd→AH→Prop:=fun ed h'=>∃ k,ed=.ret (.tup [evV e k,.bool (decide (e.fine∧e.txt=s))])∧KeepB h' k e.keep∧h0.next≤h'.next∧∀ n,n < h0.next→h'.m n=h0.m n
theorem fin112 (e:Ev) (ok:e.ok) (s:List UInt8) {h0 h:AH} {n2 n4:Nat} {k w:V} (hw:h.m n2=some (.cells true (.one 73) w)) (hm:h.m n4=some (.cells true (.one 73) (evV e k))) (hk:KeepB h k e.keep)
   (h2:h0.next≤n2∧n2 < h.next) (hkn:∀ l,h.m n2≠some (.cells true (.row 4) l)) (hn:h0.next≤h.next) (fr:∀ n,n < h0.next→h.m n=h0.m n) :
   Jz1m (EventEnd e s h0) (.str s) (.ptr (some ⟨n2,.one 73,[]⟩)) (.ptr (some ⟨n4,.one 73,[]⟩)) h:=by
 obtain ⟨a,rfl⟩:=hk.shape
 rw [Jz1m_eq]
 refine bindV_mk (ld_mk (p:=[]) hm (by kernel_rfl) rfl) ?_
 refine callS (lineP e ok hk) ?_
 refine bindS_mk (show aExtract _ _=some _ from rfl) ?_
 refine bindS_mk (show aExtract _ _=some _ from rfl) ?_
 refine bindV_mk (ld_mk (p:=[]) hm (by kernel_rfl) rfl) ?_
 have shE:hasShape Pg (evV e (.slc a e.keep.length)) 73=true:=s73 e a _
 have fin:∀ b:V,b=.bool (decide (e.fine∧e.txt=s))→bindV (aStoreV Pg h 73 (.ptr (some ⟨n2,.one 73,[]⟩)) (evV e (.slc a e.keep.length))) (fun _ h186=>Meet (Jz1n (EventEnd e s h0) (.ptr (some ⟨n2,.one 73,[]⟩)) b h186)):=by
   intro b hb
   refine bindE (st_at (p:=[]) hw (by kernel_rfl) rfl shE (v':=evV e (.slc a e.keep.length)) rfl) fun h1 u1=>?_
   refine Meet.of (cast_p (Jz1n_eq _ _ _ _) ?_)
   have e1:=ld_mk (P:=Pg) (t:=73) (p:=[]) u1.at_ (by kernel_rfl) (w:=evV e (.slc a e.keep.length)) rfl
   simp only [aLoadV] at e1
   have e2:=(still_some e1).1
   refine bindR_mk (show aRes Pg _ _ R112=some [evV e (.slc a e.keep.length),b] by simp only [R112,aRes,Env.get,if_true,e2];rfl) ?_
   subst hb
   refine ⟨_,rfl,hk.keepT (by rw [u1.next];omega) (fun n xs q1 q2=>u1.other n fun q=>hkn _ (q▸q2)),by rw [u1.next];exact hn,fun n q=>(u1.other n (by omega)).trans (fr n q)⟩
 by_cases hf:e.fine
 · rw [if_pos hf,decide_eq_true hf]
   refine g_tt ?_
   refine bindS_mk t_eql ?_
   refine Meet.of (cast_p (Gz1_eq _ _ _ _ _ _) ?_)
   refine bindV_mk p_t ?_
   refine fin _ ?_
   congr 1
   by_cases q:e.txt=s <;> simp [q,hf]
 · rw [decide_eq_false hf]
   refine g_ft ?_
   refine Meet.of (cast_p (Gz1_eq _ _ _ _ _ _) ?_)
   refine bindV_mk p_f ?_
   refine fin _ ?_
   congr 1
   simp [hf]
end Go.Proofs.YtcglbpjpbjaecaaGreat.Sh
namespace Go.Proofs.YtcglbpjpbjaecaaGreat.Sh
open Go Go.Ab Go.RowKit
open Go.Proofs.YtcglbpjpbjaecaaGreat.Ru (Pg okP)
open Go.Proofs.YtcglbpjpbjaecaaGreat.Sj (cutAt cutP cut_idx idxB)
set_option maxRecDepth 10000
set_option linter.unusedSectionVars false
structure CM (h0 h:AH) (n2 n4 nC:Nat) (c:Cs):Prop where
 m2:∃ w,h.m n2=some (.cells true (.one 73) w)
 m4:h.m n4=some (.cells true (.one 73) (evV c.e (.slc none 0)))
 mC:h.m nC=some (.cells true (.row 225) (.agg callV))
 o:h0.next≤n2∧n2 < n4∧n4 < nC∧nC < h.next
 fr:∀ n,n < h0.next→h.m n=h0.m n
theorem cv16 {h:AH} {n:Nat}:aConv Pg h 49 22 (.int .u64 (n:Int))=some (.int .u16 ((n % 65536:Nat):Int)):=by
 rw [cv_int (d:=22) .u16 (by kernel_rfl)]
 have:IntKind.u16.wrap (n:Int)=((n % 65536:Nat):Int):=by
   show (n:Int) % 65536=_
   omega
 rw [this]
section
variable {h0 h:AH} {p2 p4 pC pR m k:Nat} {c:Cs} {Q:AEnd→AH→Prop} {x0 x9 x72 x73 x74:V}
theorem off112 (hc:CM h0 h p2 p4 pC c) (hr:c.rest.length≤200000) (hR:h.m pR=some (.cells true (.one 225) (rowV k))) (o13:pC < pR∧pR < h.next) (hk8:k < 8) (cont:∀ c' h',c'=(if fOff k then c.off else c)→CM h0 h' p2 p4 pC c'→Jz1i Q m x0 (.ptr (some ⟨p2,.one 73,[]⟩)) (.ptr (some ⟨p4,.one 73,[]⟩)) (.str c'.rest) x9 x72 x73 x74 h'):Jz1h Q m x0 (.ptr (some ⟨p2,.one 73,[]⟩)) (.ptr (some ⟨p4,.one 73,[]⟩)) (.str c.rest) x9 (.ptr (some ⟨pR,.one 225,[]⟩)) x72 x73 x74 h:=by
 obtain ⟨⟨w2,m2⟩,m4,mC,⟨o1,o2,o3,o4⟩,fr⟩:=hc
 have l1:=cutAt_len 32 c.rest
 have b1:(readT (cutAt 32 c.rest).1).1 < 10000000000:=rdN_lt _
 rw [Jz1h_eq]
 refine bindS_mk (fa_mk (by kernel_rfl)) ?_
 refine bindV_mk (ld_mk hR (by kernel_rfl) rfl) ?_
 refine i_split (fun q=>?_) (fun q=>?_)
 ·
   replace q:fOff k=true:=q
   refine callS (wordP _ (by omega) _) ?_
   refine bindS_mk (show aExtract _ _=some _ from rfl) ?_
   refine bindS_mk (show aExtract _ _=some _ from rfl) ?_
   refine callS (readP _ _) ?_
   refine bindS_mk (show aExtract _ _=some _ from rfl) ?_
   refine bindS_mk (show aExtract _ _=some _ from rfl) ?_
   refine bindS_mk (cv_wr (d:=3) (k:=.i64) (by kernel_rfl) (wrap_i64 (by omega) (by omega))) ?_
   refine bindS_mk (fa_mk (by kernel_rfl)) ?_
   refine bindS_mk (fa_mk (by kernel_rfl)) ?_
   refine bindE (st_at m4 (by kernel_rfl) rfl (by kernel_rfl) rfl) fun h1 u1=>?_
   have n1:=u1.next
   have fW_1:=(u1.other _ (by omega)).trans m2
   have fX_1:=u1.at_
   have fC_1:=(u1.other _ (by omega)).trans mC
   have fR_1:=(u1.other _ (by omega)).trans hR
   have fF_1:=fun k (hk:k < h0.next)=>(u1.other k (by omega)).trans (fr k hk)
   refine callS (backP _ _) ?_
   refine bindS_mk (show aExtract _ _=some _ from rfl) ?_
   refine bindS_mk (show aExtract _ _=some _ from rfl) ?_
   refine bindS_mk (fa_mk (by kernel_rfl)) ?_
   refine bindS_mk (fa_mk (by kernel_rfl)) ?_
   refine bindE (st_at fX_1 (by kernel_rfl) rfl (by kernel_rfl) rfl) fun h2 u2=>?_
   have n2:=u2.next
   have fW_2:=(u2.other _ (by omega)).trans fW_1
   have fX_2:=u2.at_
   have fC_2:=(u2.other _ (by omega)).trans fC_1
   have fR_2:=(u2.other _ (by omega)).trans fR_1
   have fF_2:=fun k (hk:k < h0.next)=>(u2.other k (by omega)).trans (fF_1 k hk)
   exact Meet.of (cont c.off _ (if_pos q).symm ⟨⟨_,fW_2⟩,fX_2,fC_2,⟨by omega,by omega,by omega,by omega⟩,fF_2⟩)
 ·
   replace q:fOff k=false:=q
   exact Meet.of (cont c _ (if_neg (by rw [q];decide)).symm ⟨⟨_,m2⟩,m4,mC,⟨by omega,by omega,by omega,by omega⟩,fr⟩)
theorem page112 (hc:CM h0 h p2 p4 pC c) (hr:c.rest.length≤200000) (hR:h.m pR=some (.cells true (.one 225) (rowV k))) (o13:pC < pR∧pR < h.next) (hk8:k < 8) (cont:∀ c' h',c'=(let d:=if fPage k then c.page else c;if fOff k then d.off else d)→CM h0 h' p2 p4 pC c'→Jz1i Q m x0 (.ptr (some ⟨p2,.one 73,[]⟩)) (.ptr (some ⟨p4,.one 73,[]⟩)) (.str c'.rest) x9 x72 x73 x74 h'):Jz1g Q m x0 (.ptr (some ⟨p2,.one 73,[]⟩)) (.ptr (some ⟨p4,.one 73,[]⟩)) (.str c.rest) x9 (.ptr (some ⟨pR,.one 225,[]⟩)) x72 x73 x74 h:=by
 obtain ⟨⟨w2,m2⟩,m4,mC,⟨o1,o2,o3,o4⟩,fr⟩:=hc
 have l1:=cutAt_len 32 c.rest
 have b1:(readT (cutAt 32 c.rest).1).1 < 10000000000:=rdN_lt _
 rw [Jz1g_eq]
 refine bindS_mk (fa_mk (by kernel_rfl)) ?_
 refine bindV_mk (ld_mk hR (by kernel_rfl) rfl) ?_
 refine i_split (fun q=>?_) (fun q=>?_)
 ·
   replace q:fPage k=true:=q
   refine callS (wordP _ (by omega) _) ?_
   refine bindS_mk (show aExtract _ _=some _ from rfl) ?_
   refine bindS_mk (show aExtract _ _=some _ from rfl) ?_
   refine callS (readP _ _) ?_
   refine bindS_mk (show aExtract _ _=some _ from rfl) ?_
   refine bindS_mk (show aExtract _ _=some _ from rfl) ?_
   refine bindS_mk (cv16) ?_
   refine bindS_mk (fa_mk (by kernel_rfl)) ?_
   refine bindS_mk (fa_mk (by kernel_rfl)) ?_
   refine bindE (st_at m4 (by kernel_rfl) rfl (by kernel_rfl) rfl) fun h1 u1=>?_
   have n1:=u1.next
   have fW_1:=(u1.other _ (by omega)).trans m2
   have fX_1:=u1.at_
   have fC_1:=(u1.other _ (by omega)).trans mC
   have fR_1:=(u1.other _ (by omega)).trans hR
   have fF_1:=fun k (hk:k < h0.next)=>(u1.other k (by omega)).trans (fr k hk)
   exact Meet.of (off112 (c:=c.page) ⟨⟨_,fW_1⟩,fX_1,fC_1,⟨by omega,by omega,by omega,by omega⟩,fF_1⟩ (by show (cutAt 32 c.rest).2.1.length≤_;omega) fR_1 (by omega) hk8 fun c' h' he hh=>cont c' h' (by rw [he];simp only [q,if_true,Bool.false_eq_true,if_false]) hh)
 ·
   replace q:fPage k=false:=q
   exact Meet.of (off112 (c:=c) ⟨⟨_,m2⟩,m4,mC,⟨by omega,by omega,by omega,by omega⟩,fr⟩ (hr) hR (by omega) hk8 fun c' h' he hh=>cont c' h' (by rw [he];simp only [q,if_true,Bool.false_eq_true,if_false]) hh)
theorem txn112 (hc:CM h0 h p2 p4 pC c) (hr:c.rest.length≤200000) (hR:h.m pR=some (.cells true (.one 225) (rowV k))) (o13:pC < pR∧pR < h.next) (hk8:k < 8) (cont:∀ c' h',c'=callStep k c→CM h0 h' p2 p4 pC c'→Jz1i Q m x0 (.ptr (some ⟨p2,.one 73,[]⟩)) (.ptr (some ⟨p4,.one 73,[]⟩)) (.str c'.rest) x9 x72 x73 x74 h'):Jz1f Q m x0 (.ptr (some ⟨p2,.one 73,[]⟩)) (.ptr (some ⟨p4,.one 73,[]⟩)) (.str c.rest) x9 (.int .i64 k) (.ptr (some ⟨pR,.one 225,[]⟩)) x72 x73 x74 h:=by
 obtain ⟨⟨w2,m2⟩,m4,mC,⟨o1,o2,o3,o4⟩,fr⟩:=hc
 have l1:=cutAt_len 32 c.rest
 have b1:(readT (cutAt 32 c.rest).1).1 < 10000000000:=rdN_lt _
 rw [Jz1f_eq]
 refine bindS_mk (cv_wr (d:=5) (k:=.u8) (by kernel_rfl) (wr_u8 (by omega) (by omega))) ?_
 refine bindS_mk (fa_mk (by kernel_rfl)) ?_
 refine bindS_mk (fa_mk (by kernel_rfl)) ?_
 refine bindE (st_at m4 (by kernel_rfl) rfl (by kernel_rfl) rfl) fun h1 u1=>?_
 have n1:=u1.next
 have fW_1:=(u1.other _ (by omega)).trans m2
 have fX_1:=u1.at_
 have fC_1:=(u1.other _ (by omega)).trans mC
 have fR_1:=(u1.other _ (by omega)).trans hR
 have fF_1:=fun k (hk:k < h0.next)=>(u1.other k (by omega)).trans (fr k hk)
 refine bindS_mk (fa_mk (by kernel_rfl)) ?_
 refine bindV_mk (ld_mk fR_1 (by kernel_rfl) rfl) ?_
 refine i_split (fun q=>?_) (fun q=>?_)
 ·
   replace q:fTxn k=true:=q
   refine callS (wordP _ (by omega) _) ?_
   refine bindS_mk (show aExtract _ _=some _ from rfl) ?_
   refine bindS_mk (show aExtract _ _=some _ from rfl) ?_
   refine callS (readP _ _) ?_
   refine bindS_mk (show aExtract _ _=some _ from rfl) ?_
   refine bindS_mk (show aExtract _ _=some _ from rfl) ?_
   refine bindS_mk (fa_mk (by kernel_rfl)) ?_
   refine bindS_mk (fa_mk (by kernel_rfl)) ?_
   refine bindE (st_at fX_1 (by kernel_rfl) rfl (by kernel_rfl) rfl) fun h2 u2=>?_
   have n2:=u2.next
   have fW_2:=(u2.other _ (by omega)).trans fW_1
   have fX_2:=u2.at_
   have fC_2:=(u2.other _ (by omega)).trans fC_1
   have fR_2:=(u2.other _ (by omega)).trans fR_1
   have fF_2:=fun k (hk:k < h0.next)=>(u2.other k (by omega)).trans (fF_1 k hk)
   exact Meet.of (page112 (c:=(⟨{ c.e with ck:=k },c.rest⟩:Cs).txn) ⟨⟨_,fW_2⟩,fX_2,fC_2,⟨by omega,by omega,by omega,by omega⟩,fF_2⟩ (by show (cutAt 32 c.rest).2.1.length≤_;omega) fR_2 (by omega) hk8 fun c' h' he hh=>cont c' h' (by rw [he];unfold callStep;simp only [q,if_true]) hh)
 ·
   replace q:fTxn k=false:=q
   exact Meet.of (page112 (c:=(⟨{ c.e with ck:=k },c.rest⟩:Cs)) ⟨⟨_,fW_1⟩,fX_1,fC_1,⟨by omega,by omega,by omega,by omega⟩,fF_1⟩ (hr) fR_1 (by omega) hk8 fun c' h' he hh=>cont c' h' (by rw [he];unfold callStep;simp only [q,Bool.false_eq_true,if_false]) hh)
end
end Go.Proofs.YtcglbpjpbjaecaaGreat.Sh
namespace Go.Proofs.YtcglbpjpbjaecaaGreat.Sh
open Go Go.Ab Go.RowKit
open Go.Proofs.YtcglbpjpbjaecaaGreat.Ru (Pg okP)
open Go.Proofs.YtcglbpjpbjaecaaGreat.Sj (cutAt cutP cut_idx idxB)
set_option maxRecDepth 10000
set_option linter.unusedSectionVars false
theorem nze225:zeroV Pg 225=some (.agg [.str [],.bool false,.bool false,.bool false,.bool false]):=by kernel_rfl
theorem nzs225:hasShape Pg (.agg [.str [],.bool false,.bool false,.bool false,.bool false]) 225=true:=by kernel_rfl
theorem sr225 (k:Nat):hasShape Pg (rowV k) 225=true:=by kernel_rfl
section
variable {h0 h:AH} {p2 p4 pC pR m k:Nat} {c:Cs} {Q:AEnd→AH→Prop} {x0:V} {name:List UInt8}
theorem top112 (hc:CM h0 h p2 p4 pC c) (hr:c.rest.length≤200000) (hk:k < 8) (cont:∀ c' h',c'=(if nameOf k=name then callStep k c else c)→CM h0 h' p2 p4 pC c'→Lz3r Q m x0 (.ptr (some ⟨p2,.one 73,[]⟩)) (.ptr (some ⟨p4,.one 73,[]⟩)) (.str c'.rest) (.str name) (.slc (some (⟨pC,.row 225,[]⟩,0)) 8) (.int .i64 8) (.int .i64 ((k + 1:Nat):Int)) h'):Jz1e Q m x0 (.ptr (some ⟨p2,.one 73,[]⟩)) (.ptr (some ⟨p4,.one 73,[]⟩)) (.str c.rest) (.str name) (.slc (some (⟨pC,.row 225,[]⟩,0)) 8) (.int .i64 8) (.int .i64 k) h:=by
 replace cont:∀ c' h',c'=(if nameOf k=name then callStep k c else c)→CM h0 h' p2 p4 pC c'→Jz1i Q m x0 (.ptr (some ⟨p2,.one 73,[]⟩)) (.ptr (some ⟨p4,.one 73,[]⟩)) (.str c'.rest) (.str name) (.slc (some (⟨pC,.row 225,[]⟩,0)) 8) (.int .i64 8) (.int .i64 k) h':=fun c' h' he hh=>by
   rw [Jz1i_eq]
   refine bindS_mk (w_add (wrap_i64 (by omega) (by omega))) ?_
   exact Meet.of (cont c' h' he hh)
 obtain ⟨⟨w2,m2⟩,m4,mC,⟨o1,o2,o3,o4⟩,fr⟩:=hc
 rw [Jz1e_eq]
 refine bindS_mk (ia_slc _ (by kernel_rfl) (by omega) (by omega)) ?_
 refine bindV_mk (ld_mk mC (by kernel_rfl) (getRow hk)) ?_
 refine bindE (al_at nze225 nzs225) fun h1 u1=>?_
 have n1:=u1.next
 have fW_1:=(u1.other _ (by omega)).trans m2
 have fX_1:=(u1.other _ (by omega)).trans m4
 have fC_1:=(u1.other _ (by omega)).trans mC
 have fF_1:=fun k (hk:k < h0.next)=>(u1.other k (by omega)).trans (fr k hk)
 have f1_1:=u1.at_
 refine bindE (st_at f1_1 (by kernel_rfl) rfl (sr225 k) rfl) fun h2 u2=>?_
 have n2:=u2.next
 have fW_2:=(u2.other _ (by omega)).trans fW_1
 have fX_2:=(u2.other _ (by omega)).trans fX_1
 have fC_2:=(u2.other _ (by omega)).trans fC_1
 have fF_2:=fun k (hk:k < h0.next)=>(u2.other k (by omega)).trans (fF_1 k hk)
 have f1_2:=u2.at_
 refine bindS_mk (fa_mk (by kernel_rfl)) ?_
 refine bindV_mk (ld_mk f1_2 (by kernel_rfl) rfl) ?_
 refine bindS_mk (t_neq) ?_
 refine i_split (fun c3=>?_) (fun c3=>?_)
 · try rw [c3]
   have q:¬ nameOf k=name:=fun q=>by subst q;simp at c3
   exact Meet.of (cont c _ (if_neg q).symm ⟨⟨_,fW_2⟩,fX_2,fC_2,⟨by omega,by omega,by omega,by omega⟩,fF_2⟩)
 · try rw [c3]
   have q:nameOf k=name:=by simpa using c3
   exact Meet.of (txn112 ⟨⟨_,fW_2⟩,fX_2,fC_2,⟨by omega,by omega,by omega,by omega⟩,fF_2⟩ hr f1_2 (by omega) hk fun c' h' he hh=>cont c' h' (by rw [if_pos q];exact he) hh)
theorem callsL:∀ (j i m:Nat) (c:Cs) (h:AH),i + j=8→j < m→c.ok→CM h0 h p2 p4 pC c→(∀ c' h',c'=callL name j i c→CM h0 h' p2 p4 pC c'→Jz1m Q x0 (.ptr (some ⟨p2,.one 73,[]⟩)) (.ptr (some ⟨p4,.one 73,[]⟩)) h')→Lz3r Q m x0 (.ptr (some ⟨p2,.one 73,[]⟩)) (.ptr (some ⟨p4,.one 73,[]⟩)) (.str c.rest) (.str name) (.slc (some (⟨pC,.row 225,[]⟩,0)) 8) (.int .i64 8) (.int .i64 i) h
 | j,i,0,c,h,hij,hm,_,_,_=>by omega
 | 0,i,m + 1,c,h,hij,hm,ok,hc,cont=>by
   obtain rfl:i=8:=by omega
   rw [Lz3r_eq]
   refine bindS_mk b_lss ?_
   refine i_split (fun q=>?_) (fun q=>?_)
   · replace q:=of_decide_eq_true q
     exfalso;omega
   · exact Meet.of (cont c h rfl hc)
 | j + 1,i,m + 1,c,h,hij,hm,ok,hc,cont=>by
   rw [Lz3r_eq]
   refine bindS_mk b_lss ?_
   refine i_split (fun q=>?_) (fun q=>?_)
   · refine Meet.of (top112 hc ok.rest (by omega) fun c' h' he hh=>?_)
     refine callsL j (i + 1) m c' h' (by omega) (by omega) ?_ hh fun c2 h2 he2 hh2=>cont c2 h2 (by rw [he2,he];rfl) hh2
     rw [he]
     split
     · exact callStep_ok (by omega) ok
     · exact ok
   · replace q:=of_decide_eq_false q
     exfalso;omega
end
end Go.Proofs.YtcglbpjpbjaecaaGreat.Sh
namespace Go.Proofs.YtcglbpjpbjaecaaGreat.Sh
open Go Go.Ab Go.RowKit
open Go.Proofs.YtcglbpjpbjaecaaGreat.Ru (Pg okP)
set_option maxRecDepth 10000
theorem ap71:apOk Pg 71 71 4=true:=by kernel_rfl
theorem ap84:apOk Pg 84 84 73=true:=by kernel_rfl
theorem by4:Pg.bytesOf 4=1:=by kernel_rfl
theorem by73:Pg.bytesOf 73≤1000:=by decide +kernel
def KeptEnd (l:List Ev) (h0:AH):AEnd→AH→Prop:=fun ed h'=>∃ y,ed=.ret y∧ScrB h' y (keptF l)∧h0.next≤h'.next∧(∀ n,n < h0.next→h'.m n=h0.m n)∧Young 73 h0.next y
theorem app_nil {t xt e:TypeId} {h:AH} {n m:Nat} {y:V} (hc:apOk Pg t xt e=true) (hy:aElems Pg h e y=some []):aBuiltin Pg h .append [t,xt] [.slc (some (⟨n,.row e,[]⟩,0)) m,y]=some (.slc (some (⟨n,.row e,[]⟩,0)) m,h):=by
 obtain ⟨h1,h2,h3,h4⟩:=apOk_spec hc
 simp only [aBuiltin,h1]
 rw [if_pos h2]
 unfold aAppend
 rw [hy]
section
variable (l:List Ev) {h0:AH} {x:V} (hsc:ScrA h0 x l)
include hsc
omit hsc in
theorem take_succ' {α:Type} {s:List α} {i:Nat} {b:α} (h:s[i]?=some b):s.take (i + 1)=s.take i++[b]:=by
 rw [List.take_add_one,h];rfl
theorem step46 {i:Nat} (hi:i < l.length∧i < 2100) {e:Ev} (he:l[i]?=some e) {y:V} {ys:List V} {h:AH} {m:Nat} (hR:RowB 73 h y ys) (hE:EvsAt h ys ((l.take i).map Ev.cut)) (hY:Young 73 h0.next y) (hn:h0.next≤h.next)
   (fr:∀ n,n < h0.next→h.m n=h0.m n)
   (k:∀ (y:V) (ys:List V) (h:AH),RowB 73 h y ys→EvsAt h ys ((l.take (i + 1)).map Ev.cut)→Young 73 h0.next y→h0.next≤h.next→(∀ n,n < h0.next→h.m n=h0.m n)→Lz43 (KeptEnd l h0) m x y (.int .i64 ((i + 1:Nat):Int)) h) :
   Jz3i (KeptEnd l h0) m x y (.int .i64 i) h:=by
 rw [Jz3i_eq]
 rcases hsc with ⟨_,hl0⟩ | ⟨nS,own,xs,hnS,hx0,hS0,hxl,hat⟩
 · rw [hl0] at hi;exact absurd hi.1 (by simp)
 obtain ⟨kk,hx,hk0⟩:=hat i e he
 have hS:=(fr nS hnS).trans hS0
 subst hx0
 refine bindS_mk (ia_slc _ (by kernel_rfl) (by omega) (by omega)) ?_
 refine bindV_mk (ld_mk hS (by kernel_rfl) (getV_row (by rw [show 0 + ((i:Nat):Int).toNat=i by omega];exact hx))) ?_
 have hk:KeepA h kk e.keep:=by
   rcases hk0 with ⟨rfl,q⟩ | ⟨n,o,q1,rfl,q3⟩
   · exact .inl ⟨rfl,q⟩
   · exact .inr ⟨n,o,by omega,rfl,(fr n q1).trans q3⟩
 refine bindE (al_at z73 zs73) fun h1 u1=>?_
 have n1:=u1.next
 obtain ⟨ak,hak⟩:=hk.shape
 have s73':hasShape Pg (evV e kk) 73=true:=by rw [hak];exact s73 e ak _
 refine bindE (st_at u1.at_ (by kernel_rfl) rfl s73' rfl) fun h2 u2=>?_
 have n2:=u2.next
 refine bindE (bs_at (e:=4) (z:=.bool false) (l:=[]) (by kernel_rfl) (by kernel_rfl) rfl) fun h3 u3=>?_
 have n3:=u3.next
 have fb3:h3.m h.next=some (.cells true (.one 73) (evV e kk)):=(u3.other _ (by omega)).trans u2.at_
 have f3:∀ n,n < h.next→h3.m n=h.m n:=fun n q=>(u3.other _ (by omega)).trans ((u2.other _ (by omega)).trans (u1.other _ (by omega)))
 refine bindS_mk (fa_mk (by kernel_rfl)) ?_
 refine bindV_mk (ld_mk fb3 (by kernel_rfl) rfl) ?_
 refine bindS_mk (fa_mk (by kernel_rfl)) ?_
 refine bindV_mk (ld_mk fb3 (by kernel_rfl) rfl) ?_
 refine bindV_mk (show aBuiltin Pg h3 .len [71] [kk]=some (.int .i64 e.keep.length,h3) by rw [hak];exact len_slc (by kernel_rfl)) ?_
 refine bindV_mk (min21 _ _) ?_
 have hk3:KeepA h3 kk e.keep:=by
   rcases hk with ⟨rfl,q⟩ | ⟨n,o,q1,rfl,q3⟩
   · exact .inl ⟨rfl,q⟩
   · exact .inr ⟨n,o,by omega,rfl,(f3 n q1).trans q3⟩
 obtain ⟨w,hw1,hw2⟩:=sl71 hk3 (min e.keep.length 2100) (by omega)
 refine bindS_mk hw1 ?_
 have hcut:e.keep.take (min e.keep.length 2100)=e.cut.keep:=by
   rw [Ev.cut]
   rcases Nat.le_total e.keep.length 2100 with q | q
   · rw [List.take_of_length_le (by omega),List.take_of_length_le (by omega)]
   · rw [Nat.min_eq_right q]
 rw [hcut] at hw2
 have hcl:e.cut.keep.length≤2100:=by simp [Ev.cut];omega
 have hR3:RowB 4 h3 (.slc (some (⟨h2.next,.row 4,[]⟩,0)) 0) []:=.inr ⟨h2.next,by omega,rfl,u3.at_⟩
 obtain ⟨v4,h4,e4,hB4,n4,f4⟩:∃ v4 h4,aBuiltin Pg h3 .append [71,71] [.slc (some (⟨h2.next,.row 4,[]⟩,0)) 0,w]=some (v4,h4)∧KeepB h4 v4 e.cut.keep∧h3.next≤h4.next∧∀ n,n < h2.next→h4.m n=h3.m n:=by
   by_cases hz:e.cut.keep=[]
   · rw [hz] at hw2
     refine ⟨.slc (some (⟨h2.next,.row 4,[]⟩,0)) 0,h3,?_,?_,by omega,fun n _=>rfl⟩
     · exact app_nil ap71 hw2
     · rw [hz];exact .inr ⟨h2.next,by omega,rfl,u3.at_⟩
   · obtain ⟨v,h',q1,q2,q3,q4,q5⟩:=hR3.app ap71 hw2 (by cases hc:e.cut.keep with | nil=>exact absurd hc hz | cons a l=>simp [boolsV]) (by rw [by4,boolsV_len];simp;omega)
     refine ⟨v,h',q1,keepB_row (by simpa using q2),by omega,fun n hn=>q4 n (by omega) fun len q=>?_⟩
     simp only [V.slc.injEq,Option.some.injEq,Prod.mk.injEq,PA.mk.injEq] at q
     omega
 refine bindV_mk e4 ?_
 obtain ⟨a4,rfl⟩:=hB4.shape
 refine bindS_mk (fa_mk (by kernel_rfl)) ?_
 have fb4:h4.m h.next=some (.cells true (.one 73) (evV e kk)):=(f4 _ (by omega)).trans fb3
 refine bindE (st_at fb4 (by kernel_rfl) rfl (v':=evV e.cut (.slc a4 e.cut.keep.length)) (by kernel_rfl) rfl) fun h5 u5=>?_
 have n5:=u5.next
 refine bindV_mk (ld_mk u5.at_ (by kernel_rfl) rfl) ?_
 refine bindE (bs1_at (e:=73) (by kernel_rfl) z73 (s73 e.cut a4 _)) fun h6 u6=>?_
 have n6:=u6.next
 have f5:∀ n,n < h.next→h6.m n=h.m n:=fun n q=>(u6.other _ (by omega)).trans ((u5.other _ (by omega)).trans ((f4 _ (by omega)).trans (f3 n q)))
 have hB6:KeepB h6 (.slc a4 e.cut.keep.length) e.cut.keep:=by
   refine hB4.keepT (by omega) fun n xs q1 q2=>?_
   have hne:n≠h.next:=fun q=>by rw [q,fb4] at q2;cases q2
   exact (u6.other _ (by omega)).trans (u5.other _ hne)
 have hR6:RowB 73 h6 y ys:=by
   rcases hR with ⟨rfl,rfl⟩ | ⟨n,q1,rfl,q3⟩
   · exact .inl ⟨rfl,rfl⟩
   · exact .inr ⟨n,by omega,rfl,(f5 n q1).trans q3⟩
 have hE6:EvsAt h6 ys ((l.take i).map Ev.cut):=hE.keep (by omega) f5
 have hyl:ys.length≤2100:=by rw [hE.1];simp;omega
 obtain ⟨v7,h7,e7,hR7,n7,f7,hY7⟩:=hR6.app ap84 (elems_row (by exact u6.at_)) (by simp) (by have:=by73;exact Nat.le_trans (Nat.mul_le_mul (show ys.length + 1≤2101 by omega) this) (by decide))
 refine bindV_mk e7 ?_
 refine Meet.of (cast_p (Jz3j_eq _ _ _ _ _ _) ?_)
 refine bindS_mk (w_add (wrap_i64 (by omega) (by omega))) ?_
 refine Meet.of ((congrArg (fun z:Int=>Lz43 (KeptEnd l h0) m _ v7 (.int .i64 z) h7) (show ((i:Nat):Int) + 1=((i + 1:Nat):Int) by omega)).mpr (k v7 _ h7 hR7 ?_ (fun n q=>hY7 n (by omega)) (by omega) fun n q=>?_))
 · rw [take_succ' he,List.map_append]
   have t7:∀ n xs,n < h6.next→h6.m n=some (.cells true (.row 4) xs)→h7.m n=h6.m n:=fun n xs q1 q2=>f7 n q1 fun len q=>by
     rcases hR6 with ⟨rfl,_⟩ | ⟨n',g1,rfl,g3⟩
     · cases q
     · simp only [V.slc.injEq,Option.some.injEq,Prod.mk.injEq,PA.mk.injEq] at q
       rw [q.1.1.1,q2] at g3;cases g3
   exact (hE6.keepT (by omega) t7).snoc (hB6.keepT (by omega) t7)
 · exact (f7 n (by omega) (hY n q)).trans ((f5 n (by omega)).trans (fr n q))
theorem loop46:∀ (j i:Nat) (y:V) (ys:List V) (h:AH) (m:Nat),i≤min l.length 2100→min l.length 2100 - i=j→j < m→RowB 73 h y ys→EvsAt h ys ((l.take i).map Ev.cut)→Young 73 h0.next y→h0.next≤h.next→(∀ n,n < h0.next→h.m n=h0.m n)→Lz43 (KeptEnd l h0) m x y (.int .i64 i) h:=by
 obtain ⟨ax,hax⟩:=hsc.shape
 subst hax
 intro j
 induction j with
 | zero =>
   intro i y ys h m hi hj hm hR hE hY hn fr
   obtain ⟨m,rfl⟩:∃ j,m=j + 1:=⟨m - 1,by omega⟩
   rw [Lz43_eq]
   refine bindV_mk (len_slc (by kernel_rfl)) ?_
   refine bindS_mk (b_lss) ?_
   refine g_split_t (fun c1=>?_) (fun c1=>?_)
   · try rw [c1]
     replace c1:=of_decide_eq_true c1
     refine bindS_mk (b_lss) ?_
     refine Meet.of (cast_p (Gz1a_eq _ _ _ _ _ _ _ _) ?_)
     refine bindV_mk p_t ?_
     refine Meet.of (cast_p (Jz3h_eq _ _ _ _ _ _ _) ?_)
     refine i_split (fun c2=>?_) (fun c2=>?_)
     · try rw [c2]
       replace c2:=of_decide_eq_true c2
       exfalso;omega
     · try rw [c2]
       replace c2:=of_decide_eq_false c2
       refine Meet.of (cast_p (Jz3k_eq _ _ _) ?_)
       have ei:l.take i=l.take 2100:=by rcases Nat.le_total l.length 2100 with q | q;rw [List.take_of_length_le (by omega),List.take_of_length_le (by omega)];rw [show i=2100 by omega]
       exact ⟨_,rfl,(show (l.take i).map Ev.cut=keptF l by rw [keptF,ei])▸scrB_row hR hE,hn,fr,hY⟩
   · try rw [c1]
     replace c1:=of_decide_eq_false c1
     refine Meet.of (cast_p (Gz1a_eq _ _ _ _ _ _ _ _) ?_)
     refine bindV_mk p_f ?_
     refine Meet.of (cast_p (Jz3h_eq _ _ _ _ _ _ _) ?_)
     refine i_f ?_
     refine Meet.of (cast_p (Jz3k_eq _ _ _) ?_)
     have ei:l.take i=l.take 2100:=by rcases Nat.le_total l.length 2100 with q | q;rw [List.take_of_length_le (by omega),List.take_of_length_le (by omega)];rw [show i=2100 by omega]
     exact ⟨_,rfl,(show (l.take i).map Ev.cut=keptF l by rw [keptF,ei])▸scrB_row hR hE,hn,fr,hY⟩
 | succ j ih =>
   intro i y ys h m hi hj hm hR hE hY hn fr
   obtain ⟨m,rfl⟩:∃ j,m=j + 1:=⟨m - 1,by omega⟩
   obtain ⟨e,he⟩:∃ e,l[i]?=some e:=⟨l[i]'(by omega),List.getElem?_eq_getElem (by omega)⟩
   have hi2:i < l.length∧i < 2100:=by omega
   rw [Lz43_eq]
   refine bindV_mk (len_slc (by kernel_rfl)) ?_
   refine bindS_mk (b_lss) ?_
   refine g_split_t (fun c1=>?_) (fun c1=>?_)
   · try rw [c1]
     replace c1:=of_decide_eq_true c1
     refine bindS_mk (b_lss) ?_
     refine Meet.of (cast_p (Gz1a_eq _ _ _ _ _ _ _ _) ?_)
     refine bindV_mk p_t ?_
     refine Meet.of (cast_p (Jz3h_eq _ _ _ _ _ _ _) ?_)
     refine i_split (fun c2=>?_) (fun c2=>?_)
     · try rw [c2]
       replace c2:=of_decide_eq_true c2
       exact Meet.of (step46 l hsc hi2 he hR hE hY hn fr fun y ys h' q1 q2 q3 q4 q5=>ih (i + 1) y ys h' m (by omega) (by omega) (by omega) q1 q2 q3 q4 q5)
     · try rw [c2]
       replace c2:=of_decide_eq_false c2
       refine Meet.of (cast_p (Jz3k_eq _ _ _) ?_)
       exfalso;omega
   · try rw [c1]
     replace c1:=of_decide_eq_false c1
     refine Meet.of (cast_p (Gz1a_eq _ _ _ _ _ _ _ _) ?_)
     refine bindV_mk p_f ?_
     refine Meet.of (cast_p (Jz3h_eq _ _ _ _ _ _ _) ?_)
     refine i_f ?_
     refine Meet.of (cast_p (Jz3k_eq _ _ _) ?_)
     exfalso;omega
end
theorem keptP (l:List Ev) {h0:AH} {x:V} (hsc:ScrA h0 x l):ACalls Pg 46 [x] h0 (KeptEnd l h0) :=
 C46 _ _ _ ⟨l.length + 2200,Meet.of (loop46 l hsc (min l.length 2100) 0 _ [] _ _ (by omega) (by omega) (by omega) (.inl ⟨rfl,rfl⟩) ⟨rfl,fun i e h=>by simp at h⟩ (fun k _ len q=>by cases q) (Nat.le_refl _) fun n _=>rfl)⟩
end Go.Proofs.YtcglbpjpbjaecaaGreat.Sh
namespace Go.Proofs.YtcglbpjpbjaecaaGreat.Sh
open Go Go.Ab Go.RowKit
open Go.Proofs.YtcglbpjpbjaecaaGreat.Ru (Pg okP)
open Go.Proofs.YtcglbpjpbjaecaaGreat.Sj (cutAt cutP cut_idx idxB)
set_option maxRecDepth 10000
set_option linter.unusedSectionVars false
def e5:Ev:={ ev0 with kind:=5 }
structure BM (h0 h:AH) (p2 p4:Nat) (k:V) (l:List Bool):Prop where
 m2:∃ w,h.m p2=some (.cells true (.one 73) w)
 m4:h.m p4=some (.cells true (.one 73) (evV e5 k))
 row:RowB 4 h k (boolsV l)
 y:Young 4 h0.next k
 o:h0.next≤p2∧p2 < p4∧p4 < h.next
 fr:∀ n,n < h0.next→h.m n=h0.m n
theorem row_ne {h:AH} {e t n:Nat} {k w:V} {xs:List V} {own:Bool} (b:RowB e h k xs) (hn:h.m n=some (.cells own (.one t) w)):∀ len,k≠.slc (some (⟨n,.row e,[]⟩,0)) len:=fun len q=>by
 rcases b with ⟨rfl,_⟩ | ⟨n',g1,rfl,g3⟩
 · cases q
 · simp only [V.slc.injEq,Option.some.injEq,Prod.mk.injEq,PA.mk.injEq] at q
   rw [q.1.1.1,hn] at g3;cases g3
theorem row_sh {h:AH} {e:Nat} {k:V} {xs:List V} (b:RowB e h k xs):∃ a n,k=.slc a n:=by
 rcases b with ⟨rfl,_⟩ | ⟨n',g1,rfl,g3⟩ <;> exact ⟨_,_,rfl⟩
theorem eq49 (b:UInt8):(((b.toNat:Nat):Int) == 49)=(b == 49):=by
 by_cases h:b=49
 · subst h;rfl
 · have h2:¬ ((b.toNat:Nat):Int)=49:=fun q=>h (UInt8.toNat_inj.1 (by show b.toNat=49;omega))
   rw [beq_eq_false_iff_ne.2 h,beq_eq_false_iff_ne.2 h2]
section
variable {h0:AH} {p2 p4:Nat} {Q:AEnd→AH→Prop} {x0:V} {rest:List UInt8}
theorem bool112 {h:AH} {k:V} {i m:Nat} (hi:i < rest.length) (hr:rest.length≤200000) (b:BM h0 h p2 p4 k ((rest.take i).map fun b=>b == 49))
   (cont:∀ k' h',BM h0 h' p2 p4 k' ((rest.take (i + 1)).map fun b=>b == 49)→Lz3s Q m x0 (.ptr (some ⟨p2,.one 73,[]⟩)) (.ptr (some ⟨p4,.one 73,[]⟩)) (.str rest) (.int .i64 ((i + 1:Nat):Int)) h') :
   Jz1k Q m x0 (.ptr (some ⟨p2,.one 73,[]⟩)) (.ptr (some ⟨p4,.one 73,[]⟩)) (.str rest) (.int .i64 i) h:=by
 obtain ⟨⟨w2,m2⟩,m4,row,y,⟨o1,o2,o3⟩,fr⟩:=b
 obtain ⟨b,hb⟩:∃ b,rest[i]?=some b:=⟨rest[i]'hi,List.getElem?_eq_getElem hi⟩
 rw [Jz1k_eq]
 refine bindSO_mk (fa_mk (by kernel_rfl)) ?_
 refine bindVO_mk (ld_mk m4 (by kernel_rfl) rfl) ?_
 refine bindSO_mk (ixS (b:=b) (by kernel_rfl) (by omega) (by rw [show ((i:Nat):Int).toNat=i by omega];exact hb)) ?_
 refine bindSO_mk b_eql ?_
 rw [eq49]
 refine bindE (bs1_at (e:=4) (by kernel_rfl) (show zeroV Pg 4=some (.bool false) by kernel_rfl) (show hasShape Pg (.bool (b == 49)) 4=true by kernel_rfl)) fun h1 u1=>?_
 have n1:=u1.next
 have m41:=(u1.other _ (by omega)).trans m4
 have m21:=(u1.other _ (by omega)).trans m2
 have fr1:∀ n,n < h0.next→h1.m n=h0.m n:=fun n q=>(u1.other _ (by omega)).trans (fr n q)
 refine ⟨ld_mk m41 (by kernel_rfl) rfl,?_⟩
 have row1:RowB 4 h1 k (boolsV ((rest.take i).map fun b=>b == 49)):=by
   rcases row with ⟨rfl,q⟩ | ⟨n,q1,rfl,q3⟩
   · exact .inl ⟨rfl,q⟩
   · exact .inr ⟨n,by omega,rfl,(u1.other n q1).trans q3⟩
 obtain ⟨k',h2,e2,row2,n2,f2,y2⟩:=row1.app ap71 (elems_row (by exact u1.at_)) (by simp) (by rw [by4,boolsV_len];simp;omega)
 refine bindV_mk e2 ?_
 refine bindSO_mk (fa_mk (by kernel_rfl)) ?_
 have m42:=(f2 p4 (by omega) (row_ne row1 m41)).trans m41
 have m22:=(f2 p2 (by omega) (row_ne row1 m21)).trans m21
 obtain ⟨a',l',rfl⟩:=row_sh row2
 refine bindE (st_at m42 (by kernel_rfl) rfl (show hasShape Pg (.slc a' l') 71=true by kernel_rfl) (v':=evV e5 (.slc a' l')) rfl) fun h3 u3=>?_
 have n3:=u3.next
 refine Meet.of (cast_p (Jz1l_eq _ _ _ _ _ _ _ _) ?_)
 refine bindS_mk (w_add (wrap_i64 (by omega) (by omega))) ?_
 refine Meet.of (cont _ h3 ⟨⟨w2,(u3.other _ (by omega)).trans m22⟩,u3.at_,?_,?_,⟨o1,o2,by omega⟩,fun n q=>(u3.other n (by omega)).trans ((f2 n (by omega) (y n q)).trans (fr1 n q))⟩)
 · rw [take_succ' hb,List.map_append]
   have:boolsV ((rest.take i).map (fun b=>b == 49)++[b].map fun b=>b == 49)=boolsV ((rest.take i).map fun b=>b == 49)++[.bool (b == 49)]:=by simp [boolsV]
   rw [this]
   rcases row2 with ⟨q1,q2⟩ | ⟨n,q1,q2,q3⟩
   · simp at q2
   · refine .inr ⟨n,by omega,q2,(u3.other n fun q=>?_).trans q3⟩
     rw [q,m42] at q3;cases q3
 · exact fun n q len=>y2 n (by omega) len
theorem boolsL (hne:rest≠[45]) (hr:rest.length≤200000):∀ (j i m:Nat) (k:V) (h:AH),i + j=rest.length→j < m→BM h0 h p2 p4 k ((rest.take i).map fun b=>b == 49) →
   (∀ k' h',BM h0 h' p2 p4 k' (rest.map fun b=>b == 49)→Jz1m Q x0 (.ptr (some ⟨p2,.one 73,[]⟩)) (.ptr (some ⟨p4,.one 73,[]⟩)) h')→Lz3s Q m x0 (.ptr (some ⟨p2,.one 73,[]⟩)) (.ptr (some ⟨p4,.one 73,[]⟩)) (.str rest) (.int .i64 i) h
 | j,i,0,k,h,hij,hm,_,_=>by omega
 | 0,i,m + 1,k,h,hij,hm,b,cont=>by
   obtain rfl:i=rest.length:=by omega
   rw [List.take_length] at b
   rw [Lz3s_eq]
   refine bindV_mk (len_str (by kernel_rfl)) ?_
   refine bindS_mk b_lss ?_
   rw [decide_eq_false (by omega)]
   refine g_ft ?_
   refine Meet.of (cast_p (Gz0_eq _ _ _ _ _ _ _ _ _ _) ?_)
   refine bindV_mk p_f ?_
   refine Meet.of (cast_p (Jz1j_eq _ _ _ _ _ _ _ _ _) ?_)
   refine i_f ?_
   exact Meet.of (cont k h b)
 | j + 1,i,m + 1,k,h,hij,hm,b,cont=>by
   rw [Lz3s_eq]
   refine bindV_mk (len_str (by kernel_rfl)) ?_
   refine bindS_mk b_lss ?_
   rw [decide_eq_true (by omega)]
   refine g_tt ?_
   refine bindS_mk t_neq ?_
   rw [beq_eq_false_iff_ne.2 hne]
   refine Meet.of (cast_p (Gz0_eq _ _ _ _ _ _ _ _ _ _) ?_)
   refine bindV_mk p_t ?_
   refine Meet.of (cast_p (Jz1j_eq _ _ _ _ _ _ _ _ _) ?_)
   refine i_t ?_
   exact Meet.of (bool112 (by omega) hr b fun k' h' b'=>boolsL hne hr j (i + 1) m k' h' (by omega) (by omega) b' cont)
theorem bools0 {m:Nat} {h:AH} (c:Jz1m Q x0 (.ptr (some ⟨p2,.one 73,[]⟩)) (.ptr (some ⟨p4,.one 73,[]⟩)) h):Lz3s Q (m + 1) x0 (.ptr (some ⟨p2,.one 73,[]⟩)) (.ptr (some ⟨p4,.one 73,[]⟩)) (.str [45]) (.int .i64 0) h:=by
 rw [Lz3s_eq]
 refine bindV_mk (len_str (by kernel_rfl)) ?_
 refine bindS_mk b_lss ?_
 rw [decide_eq_true (by decide)]
 refine g_tt ?_
 refine bindS_mk t_neq ?_
 rw [show (([45]:List UInt8) == [45])=true from rfl]
 refine Meet.of (cast_p (Gz0_eq _ _ _ _ _ _ _ _ _ _) ?_)
 refine bindV_mk p_t ?_
 refine Meet.of (cast_p (Jz1j_eq _ _ _ _ _ _ _ _ _) ?_)
 refine i_f ?_
 exact Meet.of c
end
end Go.Proofs.YtcglbpjpbjaecaaGreat.Sh
namespace Go.Proofs.YtcglbpjpbjaecaaGreat.Sh
open Go Go.Ab Go.RowKit
open Go.Proofs.YtcglbpjpbjaecaaGreat.Ru (Pg okP)
open Go.Proofs.YtcglbpjpbjaecaaGreat.Sj (cutAt cutP cut_idx idxB)
set_option maxRecDepth 10000
set_option linter.unusedSectionVars false
theorem callStep_keep (k:Nat) (c:Cs):(callStep k c).e.keep=c.e.keep:=by
 unfold callStep
 simp only []
 split <;> split <;> split <;> rfl
theorem callL_keep (name:List UInt8):∀ (j i:Nat) (c:Cs),(callL name j i c).e.keep=c.e.keep
 | 0,i,c=>rfl
 | j + 1,i,c=>by
   unfold callL
   rw [callL_keep name j (i + 1) _]
   split
   · exact callStep_keep i c
   · rfl
theorem evT0 {s:List UInt8} (h:kindIx (cutAt 32 s).1=0):evT s=(callL (cutAt 32 (cutAt 32 (cutAt 32 s).2.1).2.1).1 8 0 ⟨{ ev0 with a:=rdN (cutAt 32 (cutAt 32 s).2.1).1 },(cutAt 32 (cutAt 32 (cutAt 32 s).2.1).2.1).2.1⟩).e:=by
 unfold evT
 simp only []
 rw [if_pos h]
theorem evT5 {s:List UInt8} (h:kindIx (cutAt 32 s).1=5):evT s={ ev0 with kind:=5,keep:=if (cutAt 32 s).2.1=[45] then [] else (cutAt 32 s).2.1.map fun b=>b == 49 }:=by
 unfold evT
 simp only []
 rw [if_neg (by omega),if_pos h]
theorem evTn {s:List UInt8} (h:kindIx (cutAt 32 s).1≠0) (h5:kindIx (cutAt 32 s).1≠5):evT s={ ev0 with kind:=kindIx (cutAt 32 s).1,a:=rdN (cutAt 32 s).2.1 }:=by
 unfold evT
 simp only []
 rw [if_neg h,if_neg h5]
theorem kindDrop {i:Nat} (h:i < 7):kindNames.drop i=kindName i :: kindNames.drop (i + 1):=by
 match i,h with
 | 0,_=>rfl
 | 1,_=>rfl
 | 2,_=>rfl
 | 3,_=>rfl
 | 4,_=>rfl
 | 5,_=>rfl
 | 6,_=>rfl
section
variable {h0 h:AH} {p2 p4 pE m:Nat} {s:List UInt8}
theorem end112 (hs:s.length≤200000) {k:V} (hw:∃ w,h.m p2=some (.cells true (.one 73) w)) (hm:h.m p4=some (.cells true (.one 73) (evV (evT s) k))) (hk:KeepB h k (evT s).keep) (o:h0.next≤p2∧p2 < h.next) (fr:∀ n,n < h0.next→h.m n=h0.m n) :
   Jz1m (EventEnd (evT s) s h0) (.str s) (.ptr (some ⟨p2,.one 73,[]⟩)) (.ptr (some ⟨p4,.one 73,[]⟩)) h:=by
 obtain ⟨w,hw⟩:=hw
 exact fin112 (evT s) (evT_ok s hs) s hw hm hk o (fun l q=>by rw [hw] at q;cases q) (by omega) fr
theorem kind112 (hs:s.length≤200000) {kd:Nat} (hkd:kindIx (cutAt 32 s).1=kd) (m2:∃ w,h.m p2=some (.cells true (.one 73) w)) (m4:h.m p4=some (.cells true (.one 73) (evV { ev0 with kind:=kd } (.slc none 0)))) (o:h0.next≤p2∧p2 < p4∧p4 < h.next) (fr:∀ n,n < h0.next→h.m n=h0.m n) :
   Jz1d (EventEnd (evT s) s h0) (.str s) (.ptr (some ⟨p2,.one 73,[]⟩)) (.ptr (some ⟨p4,.one 73,[]⟩)) (.str (cutAt 32 s).2.1) h:=by
 have l1:=cutAt_len 32 s
 have l2:=cutAt_len 32 (cutAt 32 s).2.1
 have l3:=cutAt_len 32 (cutAt 32 (cutAt 32 s).2.1).2.1
 have b1:(readT (cutAt 32 (cutAt 32 s).2.1).1).1 < 10000000000:=rdN_lt _
 have b1':rdN (cutAt 32 (cutAt 32 s).2.1).1 < 10000000000:=rdN_lt _
 have b2:(readT (cutAt 32 s).2.1).1 < 10000000000:=rdN_lt _
 have b3:=kindIx_lt (cutAt 32 s).1
 rw [hkd] at b3
 replace m4:h.m p4=some (.cells true (.one 73) (.agg [.int .u8 kd,.int .i64 0,.int .i64 0,.agg [.int .u8 0,.int .u64 0,.int .u16 0,.int .i64 0,.str []],.slc none 0])):=m4
 obtain ⟨o1,o2,o3⟩:=o
 obtain ⟨w2,m2⟩:=m2
 rw [Jz1d_eq]
 refine bindS_mk (fa_mk (by kernel_rfl)) ?_
 refine bindV_mk (ld_mk m4 (by kernel_rfl) rfl) ?_
 refine bindS_mk (b_eql) ?_
 refine i_split (fun c1=>?_) (fun c1=>?_)
 · try rw [c1]
   replace c1:=eq_of_beq c1
   refine callS (wordP _ (by omega) _) ?_
   refine bindS_mk (show aExtract _ _=some _ from rfl) ?_
   refine bindS_mk (show aExtract _ _=some _ from rfl) ?_
   refine callS (readP _ _) ?_
   refine bindS_mk (show aExtract _ _=some _ from rfl) ?_
   refine bindS_mk (show aExtract _ _=some _ from rfl) ?_
   refine bindS_mk (cv_wr (d:=3) (k:=.i64) (by kernel_rfl) (wrap_i64 (by omega) (by omega))) ?_
   refine bindS_mk (fa_mk (by kernel_rfl)) ?_
   refine bindE (st_at m4 (by kernel_rfl) rfl (by kernel_rfl) rfl) fun h2 u2=>?_
   have n2:=u2.next
   have fW_2:=(u2.other _ (by omega)).trans m2
   have fX_2:=u2.at_
   have fF_2:=fun k (hk:k < h0.next)=>(u2.other k (by omega)).trans (fr k hk)
   refine callS (wordP _ (by omega) _) ?_
   refine bindS_mk (show aExtract _ _=some _ from rfl) ?_
   refine bindS_mk (show aExtract _ _=some _ from rfl) ?_
   refine callQ (callsP _) fun h3 u3=>?_
   have n3:=u3.next
   have fW_3:=(u3.other _ (by omega)).trans fW_2
   have fX_3:=(u3.other _ (by omega)).trans fX_2
   have fF_3:=fun k (hk:k < h0.next)=>(u3.other k (by omega)).trans (fF_2 k hk)
   have fC_3:=u3.at_
   refine bindV_mk (len_slc (by kernel_rfl)) ?_
   obtain rfl:kd=0:=by omega
   have hc:CM h0 _ p2 p4 _ ⟨{ ev0 with a:=rdN (cutAt 32 (cutAt 32 s).2.1).1 },(cutAt 32 (cutAt 32 (cutAt 32 s).2.1).2.1).2.1⟩:=⟨⟨_,fW_3⟩,fX_3,fC_3,⟨by omega,by omega,by omega,by omega⟩,fF_3⟩
   have hok:Cs.ok ⟨{ ev0 with a:=rdN (cutAt 32 (cutAt 32 s).2.1).1 },(cutAt 32 (cutAt 32 (cutAt 32 s).2.1).2.1).2.1⟩:=by
     refine ⟨⟨ev0_ok.kind,?_,ev0_ok.b,ev0_ok.ck,ev0_ok.txn,ev0_ok.page,ev0_ok.off,ev0_ok.s,ev0_ok.keep⟩,by show (cutAt 32 _).2.1.length≤_;omega⟩
     show _≤((rdN _:Nat):Int)∧((rdN _:Nat):Int) < _
     omega
   have key:=fun k=>callsL (Q:=EventEnd (evT s) s h0) (x0:=.str s) (name:=(cutAt 32 (cutAt 32 (cutAt 32 s).2.1).2.1).1) 8 0 9 _ _ (by omega) (by omega) hok hc k
   refine ⟨9,Meet.of (key fun c' h' he hh=>?_)⟩
   obtain ⟨m2',m4',mC',⟨q1,q2,q3,q4⟩,fr'⟩:=hh
   have e1:c'.e=evT s:=by rw [he,evT0 hkd]
   have e2:c'.e.keep=[]:=by rw [he,callL_keep];rfl
   rw [e1] at m4' e2
   exact end112 hs m2' m4' (.inl ⟨rfl,e2⟩) (by omega) fr'
 · try rw [c1]
   replace c1:=ne_of_beq_false c1
   refine bindS_mk (b_eql) ?_
   refine i_split (fun c4=>?_) (fun c4=>?_)
   · try rw [c4]
     replace c4:=eq_of_beq c4
     obtain rfl:kd=5:=by omega
     by_cases hd:(cutAt 32 s).2.1=[45]
     · have e1:=evT5 hkd
       rw [if_pos hd] at e1
       rw [hd]
       refine ⟨1,Meet.of (bools0 (end112 hs (k:=.slc none 0) ⟨_,m2⟩ ?_ (.inl ⟨rfl,by rw [e1]⟩) (by omega) fr))⟩
       rw [e1];exact m4
     · have e1:=evT5 hkd
       rw [if_neg hd] at e1
       refine ⟨_,Meet.of (boolsL hd (by omega) (cutAt 32 s).2.1.length 0 ((cutAt 32 s).2.1.length + 1) (.slc none 0) _ (by omega) (by omega) ⟨⟨_,m2⟩,m4,.inl ⟨rfl,rfl⟩,(fun k _ len q=>by cases q),⟨by omega,by omega,by omega⟩,fr⟩ fun k' h' b=>?_)⟩
       have hkb:=keepB_row b.row
       refine end112 hs (k:=k') b.m2 ?_ (by rw [e1];exact hkb) (by have:=b.o;omega) b.fr
       rw [e1];exact b.m4
   · try rw [c4]
     replace c4:=ne_of_beq_false c4
     refine callS (readP _ _) ?_
     refine bindS_mk (show aExtract _ _=some _ from rfl) ?_
     refine bindS_mk (show aExtract _ _=some _ from rfl) ?_
     refine bindS_mk (cv_wr (d:=3) (k:=.i64) (by kernel_rfl) (wrap_i64 (by omega) (by omega))) ?_
     refine bindS_mk (fa_mk (by kernel_rfl)) ?_
     refine bindE (st_at m4 (by kernel_rfl) rfl (by kernel_rfl) rfl) fun h5 u5=>?_
     have n5:=u5.next
     have fW_5:=(u5.other _ (by omega)).trans m2
     have fX_5:=u5.at_
     have fF_5:=fun k (hk:k < h0.next)=>(u5.other k (by omega)).trans (fr k hk)
     have e1:=evTn (s:=s) (by omega) (by omega)
     refine Meet.of (end112 hs (k:=.slc none 0) ⟨_,fW_5⟩ ?_ (.inl ⟨rfl,by rw [e1];rfl⟩) (by omega) fF_5)
     rw [e1,hkd];exact fX_5
theorem kstep {Q:AEnd→AH→Prop} {x0:V} {w rest:List UInt8} {i kd:Nat} (hi:i < 7) (m2:∃ w,h.m p2=some (.cells true (.one 73) w)) (m4:h.m p4=some (.cells true (.one 73) (evV { ev0 with kind:=kd } (.slc none 0)))) (mE:h.m pE=some (.cells true (.row 9) (.agg (kindNames.map V.str)))) (o:h0.next≤p2∧p2 < p4∧p4 < pE∧pE < h.next) (fr:∀ n,n < h0.next→h.m n=h0.m n)
   (cont:∀ kd' h',kd'=(if kindName i=w then i else kd)→(∃ w,h'.m p2=some (.cells true (.one 73) w))→(h'.m p4=some (.cells true (.one 73) (evV { ev0 with kind:=kd' } (.slc none 0))))→(h'.m pE=some (.cells true (.row 9) (.agg (kindNames.map V.str))))→(h0.next≤p2∧p2 < p4∧p4 < pE∧pE < h'.next)→(∀ n,n < h0.next→h'.m n=h0.m n)→Lz3q Q m x0 (.ptr (some ⟨p2,.one 73,[]⟩)) (.ptr (some ⟨p4,.one 73,[]⟩)) (.str w) (.str rest) (.slc (some (⟨pE,.row 9,[]⟩,0)) 7) (.int .i64 7) (.int .i64 ((i + 1:Nat):Int)) h'):Jz1b Q m x0 (.ptr (some ⟨p2,.one 73,[]⟩)) (.ptr (some ⟨p4,.one 73,[]⟩)) (.str w) (.str rest) (.slc (some (⟨pE,.row 9,[]⟩,0)) 7) (.int .i64 7) (.int .i64 i) h:=by
 obtain ⟨o1,o2,o3,o4⟩:=o
 obtain ⟨w2,m2⟩:=m2
 rw [Jz1b_eq]
 refine bindS_mk (ia_slc _ (by kernel_rfl) (by omega) (by omega)) ?_
 refine bindV_mk (ld_mk mE (by kernel_rfl) (getKind hi)) ?_
 refine bindS_mk (t_eql) ?_
 refine i_split (fun c1=>?_) (fun c1=>?_)
 · try rw [c1]
   have q:kindName i=w:=eq_of_beq c1
   refine bindS_mk (cv_wr (d:=5) (k:=.u8) (by kernel_rfl) (wr_u8 (by omega) (by omega))) ?_
   refine bindS_mk (fa_mk (by kernel_rfl)) ?_
   refine bindE (st_at m4 (by kernel_rfl) rfl (by kernel_rfl) rfl) fun h2 u2=>?_
   have n2:=u2.next
   have fW_2:=(u2.other _ (by omega)).trans m2
   have fX_2:=u2.at_
   have fF_2:=fun k (hk:k < h0.next)=>(u2.other k (by omega)).trans (fr k hk)
   have fE_2:=(u2.other _ (by omega)).trans mE
   refine Meet.of (cast_p (Jz1c_eq _ _ _ _ _ _ _ _ _ _ _) ?_)
   first | refine bindS_mk (w_add (by first | exact wrap_i64 (by omega) (by omega) | exact wr_u8 (by omega) (by omega) | exact wr_u16 (by omega) (by omega) | exact wr_u32 (by omega) (by omega) | exact wr_u64 (by omega) (by omega))) ?_ | refine bindS_mk (b_add) ?_
   exact Meet.of (cont i _ (if_pos q).symm ⟨_,fW_2⟩ fX_2 fE_2 (by omega) fF_2)
 · try rw [c1]
   have q:¬ kindName i=w:=ne_of_beq_false c1
   refine Meet.of (cast_p (Jz1c_eq _ _ _ _ _ _ _ _ _ _ _) ?_)
   first | refine bindS_mk (w_add (by first | exact wrap_i64 (by omega) (by omega) | exact wr_u8 (by omega) (by omega) | exact wr_u16 (by omega) (by omega) | exact wr_u32 (by omega) (by omega) | exact wr_u64 (by omega) (by omega))) ?_ | refine bindS_mk (b_add) ?_
   exact Meet.of (cont kd _ (if_neg q).symm ⟨_,m2⟩ m4 mE (by omega) fr)
theorem kindsL {Q:AEnd→AH→Prop} {x0:V} {w rest:List UInt8}:∀ (j i kd m:Nat) (h:AH),i + j=7→j < m→(∃ w,h.m p2=some (.cells true (.one 73) w))→(h.m p4=some (.cells true (.one 73) (evV { ev0 with kind:=kd } (.slc none 0))))→(h.m pE=some (.cells true (.row 9) (.agg (kindNames.map V.str))))→(h0.next≤p2∧p2 < p4∧p4 < pE∧pE < h.next)→(∀ n,n < h0.next→h.m n=h0.m n)→(∀ h',(∃ w,h'.m p2=some (.cells true (.one 73) w))→(h'.m p4=some (.cells true (.one 73) (evV { ev0 with kind:=(kindL w (kindNames.drop i) i kd) } (.slc none 0))))→(h'.m pE=some (.cells true (.row 9) (.agg (kindNames.map V.str))))→(h0.next≤p2∧p2 < p4∧p4 < pE∧pE < h'.next)→(∀ n,n < h0.next→h'.m n=h0.m n)→Jz1d Q x0 (.ptr (some ⟨p2,.one 73,[]⟩)) (.ptr (some ⟨p4,.one 73,[]⟩)) (.str rest) h')→Lz3q Q m x0 (.ptr (some ⟨p2,.one 73,[]⟩)) (.ptr (some ⟨p4,.one 73,[]⟩)) (.str w) (.str rest) (.slc (some (⟨pE,.row 9,[]⟩,0)) 7) (.int .i64 7) (.int .i64 i) h
 | j,i,kd,0,h,hij,hm,_,_,_,_,_,_=>by omega
 | 0,i,kd,m + 1,h,hij,hm,m2,m4,mE,o,fr,cont=>by
   obtain rfl:i=7:=by omega
   rw [Lz3q_eq]
   refine bindS_mk b_lss ?_
   rw [decide_eq_false (by omega)]
   refine i_f ?_
   exact Meet.of (cont h m2 m4 mE o fr)
 | j + 1,i,kd,m + 1,h,hij,hm,m2,m4,mE,o,fr,cont=>by
   rw [Lz3q_eq]
   refine bindS_mk b_lss ?_
   rw [decide_eq_true (by omega)]
   refine i_t ?_
   have hd:=kindDrop (i:=i) (by omega)
   refine Meet.of (kstep (by omega) m2 m4 mE o fr fun kd' h' he m2' m4' mE' o' fr'=>?_)
   refine kindsL j (i + 1) kd' m h' (by omega) (by omega) m2' m4' mE' o' fr' fun h2 a b c d e=>cont h2 a ?_ c d e
   rw [hd,kindL,← he];exact b
theorem eventP (s:List UInt8) (hs:s.length≤200000) (h0:AH):ACalls Pg 112 [.str s] h0 (EventEnd (evT s) s h0):=by
 refine C112 _ _ _ ?_
 refine bindE (al_at z73 zs73) fun h1 u1=>?_
 have n1:=u1.next
 have fF_1:=fun k (hk:k < h0.next)=>(u1.other k (by omega)).trans ((fun n (_:n < h0.next)=>rfl) k hk)
 have f1_1:=u1.at_
 refine bindE (al_at z73 zs73) fun h2 u2=>?_
 have n2:=u2.next
 have fF_2:=fun k (hk:k < h0.next)=>(u2.other k (by omega)).trans (fF_1 k hk)
 have f1_2:=(u2.other _ (by omega)).trans f1_1
 have f2_2:=u2.at_
 refine callS (wordP _ (by omega) _) ?_
 refine bindS_mk (show aExtract _ _=some _ from rfl) ?_
 refine bindS_mk (show aExtract _ _=some _ from rfl) ?_
 refine callQ (eventsP _) fun h3 u3=>?_
 have n3:=u3.next
 have fF_3:=fun k (hk:k < h0.next)=>(u3.other k (by omega)).trans (fF_2 k hk)
 have f1_3:=(u3.other _ (by omega)).trans f1_2
 have f2_3:=(u3.other _ (by omega)).trans f2_2
 have fE_3:=u3.at_
 refine bindV_mk (len_slc (by kernel_rfl)) ?_
 refine ⟨8,Meet.of (kindsL 7 0 0 8 _ (by omega) (by omega) ⟨_,f1_3⟩ f2_3 fE_3 ⟨by omega,by omega,by omega,by omega⟩ fF_3 fun h' a b c d e=>?_)⟩
 exact kind112 hs rfl a b ⟨by omega,by omega,by omega⟩ e
end
end Go.Proofs.YtcglbpjpbjaecaaGreat.Sh
namespace Go.Proofs.YtcglbpjpbjaecaaGreat.Sh
open Go Go.Ab Go.RowKit
open Go.Proofs.YtcglbpjpbjaecaaGreat.Ru (Pg okP)
open Go.Proofs.YtcglbpjpbjaecaaGreat.Sj (cutAt cutP cut_idx idxB)
set_option maxRecDepth 10000
theorem cutAt_mk (c:UInt8):∀ (a b:List UInt8),c ∉ a→cutAt c (a++c :: b)=(a,b,true)
 | [],b,_=>by simp [cutAt]
 | x :: a,b,h=>by
   have h1:x≠c:=fun e=>h (by simp [e])
   have h2:=cutAt_mk c a b (fun q=>h (List.mem_cons_of_mem _ q))
   simp [cutAt,h1,h2]
theorem cutAt_none (c:UInt8):∀ (a:List UInt8),c ∉ a→cutAt c a=(a,[],false)
 | [],_=>rfl
 | x :: a,h=>by
   have h1:x≠c:=fun e=>h (by simp [e])
   have h2:=cutAt_none c a (fun q=>h (List.mem_cons_of_mem _ q))
   simp [cutAt,h1,h2]
theorem dig_toNat {d:Nat} (h:d < 10):(UInt8.ofNat (48 + d)).toNat=48 + d:=by
 simp;omega
theorem dec_dig:∀ (k n:Nat),n≤k→∀ b∈dec n,48≤b.toNat∧b.toNat≤57
 | k,n,hk,b,hb=>by
   by_cases h:n < 10
   · rw [dec_lt h] at hb
     simp only [List.mem_singleton] at hb
     subst hb
     rw [dig_toNat h];omega
   · rw [dec_ge h] at hb
     rcases List.mem_append.1 hb with q | q
     · match k with
       | 0=>omega
       | k + 1=>exact dec_dig k (n / 10) (by omega) b q
     · simp only [List.mem_singleton] at q
       subst q
       rw [dig_toNat (by omega)];omega
theorem dec_no (n:Nat) (c:UInt8) (hc:c.toNat < 48∨57 < c.toNat):c ∉ dec n:=fun q=>by
 have:=dec_dig n n (Nat.le_refl _) c q
 omega
theorem rdL_dec:∀ (k m:Nat) (t:List UInt8),m≤k→rdL 0 (dec m++t)=rdL m t
 | k,m,t,hk=>by
   by_cases h:m < 10
   · rw [dec_lt h]
     simp only [List.cons_append,List.nil_append]
     rw [rdL,dig_toNat h,if_neg (by omega)]
     congr 1;omega
   · rw [dec_ge h,List.append_assoc]
     match k with
     | 0=>omega
     | k + 1 =>
       rw [rdL_dec k (m / 10) _ (by omega)]
       simp only [List.cons_append,List.nil_append]
       rw [rdL,dig_toNat (by omega),if_neg (by omega)]
       congr 1;omega
theorem dec_ne (n:Nat):dec n≠[]:=by
 by_cases h:n < 10
 · rw [dec_lt h];simp
 · rw [dec_ge h];simp
theorem dec_head:∀ (k m:Nat),m≤k→1≤m→(dec m).head?≠some 48
 | k,m,hk,h1=>by
   by_cases h:m < 10
   · rw [dec_lt h]
     simp only [List.head?_cons,ne_eq,Option.some.injEq]
     intro e
     have:=congrArg UInt8.toNat e
     rw [dig_toNat h] at this
     have h48:(48:UInt8).toNat=48:=rfl
     omega
   · rw [dec_ge h]
     match k with
     | 0=>omega
     | k + 1 =>
       have:=dec_head k (m / 10) (by omega) (by omega)
       have hne:=dec_ne (m / 10)
       cases hd:dec (m / 10) with
       | nil=>exact absurd hd hne
       | cons x l=>rw [hd] at this;simpa using this
theorem readT_dec {m:Nat} (h:m < 2147483648):readT (dec m)=(m,true):=by
 unfold readT
 rw [if_neg,← List.append_nil (dec m),rdL_dec m m [] (Nat.le_refl _),rdL,decide_eq_true h]
 have h1:=dec_len 9 m (by omega)
 have h2:(dec m).length≠0:=fun e=>dec_ne m (List.length_eq_zero_iff.1 e)
 rintro (q | q | ⟨q1,q2⟩)
 · exact h2 q
 · omega
 · by_cases hm:m < 10
   · rw [dec_lt hm] at q1;simp at q1
   · exact dec_head m m (Nat.le_refl _) (by omega) q2
theorem ix16_hx {d:Nat} (h:d < 16):ix16 (hx d)=d:=by
 have:∀ y:Fin 16,ix16 (hx y.val)=(y.val:Int):=by decide +kernel
 exact this ⟨d,h⟩
theorem bkL_hex:∀ (s out:List UInt8),bkL (hexL s) out=(out++s,true)
 | [],out=>by simp [hexL,bkL]
 | b :: s,out=>by
   have e:hexL (b :: s)=hx (b.toNat / 16) :: hx (b.toNat % 16) :: hexL s:=by simp [hexL,hx2]
   have hb:b.toNat < 256:=UInt8.toNat_lt b
   rw [e,bkL,ix16_hx (by omega),ix16_hx (by omega),if_neg (by omega)]
   have e2:UInt8.ofNat (((b.toNat / 16:Nat):Int) * 16 + ((b.toNat % 16:Nat):Int)).toNat=b:=by
     have:(((b.toNat / 16:Nat):Int) * 16 + ((b.toNat % 16:Nat):Int)).toNat=b.toNat:=by omega
     rw [this];simp
   rw [e2,bkL_hex s];simp
theorem backT_hex {s:List UInt8} (h:s.length≤64):backT (hexS s)=(s,true):=by
 unfold hexS
 cases s with
 | nil=>simp [backT]
 | cons b s =>
   have hl:=hexL_len (b :: s)
   simp only [List.length_cons] at hl h
   simp only [List.isEmpty_cons]
   unfold backT
   rw [if_neg (fun e=>by rw [show (if false=true then [45] else hexL (b :: s))=hexL (b :: s) from rfl] at e;rw [e] at hl;simp at hl;omega),show (if false=true then [(45:UInt8)] else hexL (b :: s))=hexL (b :: s) from rfl,if_neg (by omega),bkL_hex];rfl
theorem kindIx_at {k:Nat} (h:k < 7):kindIx (kindName k)=k:=by
 have:∀ y:Fin 7,kindIx (kindName y.val)=y.val:=by decide +kernel
 exact this ⟨k,h⟩
theorem kind_no {k:Nat} (h:k < 7):(32:UInt8) ∉ kindName k:=by
 have:∀ y:Fin 7,(32:UInt8) ∉ kindName y.val:=by decide +kernel
 exact this ⟨k,h⟩
theorem name_no {k:Nat} (h:k < 8):(32:UInt8) ∉ nameOf k:=by
 have:∀ y:Fin 8,(32:UInt8) ∉ nameOf y.val:=by decide +kernel
 exact this ⟨k,h⟩
theorem callL_at {k:Nat} (h:k < 8) (c:Cs):callL (nameOf k) 8 0 c=callStep k c:=by
 match k,h with
 | 0,_=>rfl
 | 1,_=>rfl
 | 2,_=>rfl
 | 3,_=>rfl
 | 4,_=>rfl
 | 5,_=>rfl
 | 6,_=>rfl
 | 7,_=>rfl
theorem bits_back:∀ l:List Bool,(bitsT l).map (fun b=>b == 49)=l
 | []=>rfl
 | b :: l=>by
   have:=bits_back l
   simp only [bitsT,List.map_cons,List.map_map] at this ⊢
   rw [this]
   cases b <;> rfl
theorem bits_dash (l:List Bool):bitsT l≠[45]:=by
 match l with
 | []=>simp [bitsT]
 | b :: l=>cases b <;> simp [bitsT]
theorem rdN_dec {m:Nat} (h:m < 2147483648):rdN (dec m)=m:=by rw [rdN,readT_dec h]
theorem no32 (n:Nat):(32:UInt8) ∉ dec n:=dec_no n 32 (.inl (by decide))
theorem evT_txt (e:Ev) (hp:e.page < 65536) (h:e.fine):evT e.txt=e:=by
 obtain ⟨h1,h2,h3,h4,h5,h6,h7,h8⟩:=h
 obtain ⟨kind,a,b,ck,txn,page,off,s,keep⟩:=e
 simp only at h1 h2 h3 h4 h5 h6 h7 h8 hp
 subst h4
 obtain ⟨a,rfl⟩:=Int.eq_ofNat_of_zero_le h2
 by_cases k0:kind=0
 · subst k0
   obtain ⟨g1,g2,g3,g4,g5,g6,g7,g8,g9⟩:=h7 rfl
   have k1:keep=[]:=List.length_eq_zero_iff.1 (h6 (by omega))
   subst k1
   obtain ⟨off,rfl⟩:=Int.eq_ofNat_of_zero_le g4
   unfold Ev.txt
   rw [if_pos rfl]
   simp only [Int.toNat_natCast]
   generalize ht:((if fTxn ck then 32 :: dec txn else [])++((if fPage ck then 32 :: dec page else [])++(if fOff ck then 32 :: (dec off++32 :: hexS s) else [])))=tail
   unfold evT
   rw [cutAt_mk 32 [97,115,107] _ (by decide)]
   simp only []
   rw [show kindIx [97,115,107]=0 by decide +kernel,if_pos rfl,cutAt_mk 32 (dec a) _ (no32 a)]
   simp only []
   rw [rdN_dec (by omega)]
   have nm:=name_no g2
   have fin:∀ t,cutAt 32 (nameOf ck++tail)=(nameOf ck,t)→(callStep ck ⟨{ ev0 with a:=(a:Int) },t.1⟩).e={ kind:=0,a:=a,b:=0,ck:=ck,txn:=txn,page:=page,off:=off,s:=s,keep:=[] }→(callL (cutAt 32 (nameOf ck++tail)).1 8 0 ⟨{ ev0 with a:=(a:Int) },(cutAt 32 (nameOf ck++tail)).2.1⟩).e={ kind:=0,a:=a,b:=0,ck:=ck,txn:=txn,page:=page,off:=off,s:=s,keep:=[] }:=by
     intro t q1 q2
     rw [q1,callL_at g2];exact q2
   by_cases c2:ck=2
   · subst c2
     have e1:tail=32 :: (dec txn++32 :: (dec page++32 :: (dec off++32 :: hexS s))):=by rw [← ht];simp [fTxn,fPage,fOff]
     rw [e1] at fin ⊢
     refine fin _ (cutAt_mk 32 _ _ nm) ?_
     simp only [callStep,show fTxn 2=true from rfl,show fPage 2=true from rfl,show fOff 2=true from rfl,if_true,Cs.txn,Cs.page,Cs.off]
     rw [cutAt_mk 32 _ _ (no32 txn)]
     simp only []
     rw [cutAt_mk 32 _ _ (no32 page)]
     simp only []
     rw [cutAt_mk 32 _ _ (no32 off)]
     simp only []
     rw [backT_hex g6,rdN_dec g3,rdN_dec (by omega),rdN_dec (by omega),Nat.mod_eq_of_lt hp]
     rfl
   · obtain ⟨o0,s0⟩:=g9 c2
     have o0:off=0:=by omega
     have s0:s=[]:=List.length_eq_zero_iff.1 s0
     subst o0 s0
     by_cases c1:ck=1
     · subst c1
       have e1:tail=32 :: (dec txn++32 :: dec page):=by rw [← ht];simp [fTxn,fPage,fOff]
       rw [e1] at fin ⊢
       refine fin _ (cutAt_mk 32 _ _ nm) ?_
       simp only [callStep,show fTxn 1=true from rfl,show fPage 1=true from rfl,show fOff 1=false from rfl,if_true,Bool.false_eq_true,if_false,Cs.txn,Cs.page]
       rw [cutAt_mk 32 _ _ (no32 txn)]
       simp only []
       rw [cutAt_none 32 _ (no32 page)]
       simp only []
       rw [rdN_dec g3,rdN_dec (by omega),Nat.mod_eq_of_lt hp]
       rfl
     · have p0:page=0:=g8 (by omega)
       subst p0
       by_cases c3:1≤ck∧ck≤4
       · have f1:fTxn ck=true:=decide_eq_true c3
         have f2:fPage ck=false:=decide_eq_false (by omega)
         have f3:fOff ck=false:=decide_eq_false (by omega)
         have e1:tail=32 :: dec txn:=by rw [← ht,f1,f2,f3];simp
         rw [e1] at fin ⊢
         refine fin _ (cutAt_mk 32 _ _ nm) ?_
         simp only [callStep,f1,f2,f3,if_true,Bool.false_eq_true,if_false,Cs.txn]
         rw [cutAt_none 32 _ (no32 txn)]
         simp only []
         rw [rdN_dec g3]
         rfl
       · have t0:txn=0:=g7 c3
         subst t0
         have f1:fTxn ck=false:=decide_eq_false c3
         have f2:fPage ck=false:=decide_eq_false (by omega)
         have f3:fOff ck=false:=decide_eq_false (by omega)
         have e1:tail=[]:=by rw [← ht,f1,f2,f3];simp
         rw [e1] at fin ⊢
         refine fin _ (by rw [List.append_nil];exact cutAt_none 32 _ nm) ?_
         simp only [callStep,f1,f2,f3,Bool.false_eq_true,if_false]
         rfl
 · obtain ⟨r1,r2,r3,r4,r5⟩:=h5 k0
   have s0:s=[]:=List.length_eq_zero_iff.1 r5
   subst r1 r2 r3 r4 s0
   by_cases k5:kind=5
   · subst k5
     obtain ⟨a0,kl⟩:=h8 rfl
     rw [a0]
     have key:∀ r,r=(if keep.length=0 then [45] else bitsT keep)→evT ([99,114,97,115,104]++32 :: r)={ kind:=5,a:=0,b:=0,ck:=0,txn:=0,page:=0,off:=0,s:=[],keep:=keep }:=by
       intro r hr
       unfold evT
       rw [cutAt_mk 32 [99,114,97,115,104] _ (by decide)]
       simp only []
       rw [show kindIx [99,114,97,115,104]=5 by decide +kernel,if_neg (by decide),if_pos rfl]
       by_cases hk:keep.length=0
       · rw [if_pos hk] at hr
         rw [if_pos hr,List.length_eq_zero_iff.1 hk];rfl
       · rw [if_neg hk] at hr
         rw [hr,if_neg (bits_dash keep),bits_back];rfl
     exact key _ rfl
   · have k0':keep=[]:=List.length_eq_zero_iff.1 (h6 k5)
     subst k0'
     unfold Ev.txt
     rw [if_neg k0,if_neg k5]
     unfold evT
     rw [cutAt_mk 32 _ _ (kind_no h1)]
     simp only []
     rw [kindIx_at h1,if_neg k0,if_neg k5]
     simp only [Int.toNat_natCast]
     rw [rdN_dec (by omega)]
     rfl
end Go.Proofs.YtcglbpjpbjaecaaGreat.Sh
namespace Go.Proofs.YtcglbpjpbjaecaaGreat.Sh
open Go Go.Ab Go.RowKit
open Go.Proofs.YtcglbpjpbjaecaaGreat.Ru (Pg okP)
open Go.Proofs.YtcglbpjpbjaecaaGreat.Sj (cutAt cutP cut_idx idxB)
set_option maxRecDepth 10000
end Go.Proofs.YtcglbpjpbjaecaaGreat.Sh
namespace Go.Proofs.YtcglbpjpbjaecaaGreat.Sh
open Go Go.Ab Go.RowKit
open Go.Proofs.YtcglbpjpbjaecaaGreat.Ru (Pg okP)
open Go.Proofs.YtcglbpjpbjaecaaGreat.Sj (cutAt cutP cut_idx idxB)
set_option maxRecDepth 10000
def lnOk (f:List UInt8→Ev) (s:List UInt8):Prop:=(f s).fine∧(f s).txt=s
instance (f:List UInt8→Ev) (s:List UInt8):Decidable (lnOk f s):=by unfold lnOk;infer_instance
def lnsL:List UInt8→List UInt8→List (List UInt8) × List UInt8
 | w,[]=>([],w)
 | w,c :: s=>if c=10 then (w :: (lnsL [] s).1,(lnsL [] s).2) else lnsL (w++[c]) s
def prsL (f:List UInt8→Ev):Nat→List (List UInt8)→List UInt8→List Ev→List Ev × Nat × Nat
 | n,[],rest,out=>if rest=[] then (out,0,0) else if 2000 < n + 1 then ([],n + 1,10) else ([],n + 1,2)
 | n,l :: ls,rest,out=>if 2000 < n + 1 then ([],n + 1,10) else if lnOk f l then prsL f (n + 1) ls rest (out++[f l]) else ([],n + 1,2)
def parT (f:List UInt8→Ev) (s:List UInt8):List Ev × Nat × Nat:=if 131072 < s.length then ([],0,10) else prsL f 0 (lnsL [] s).1 (lnsL [] s).2 []
theorem lns_len:∀ (s w l:List UInt8),l∈(lnsL w s).1→l.length≤w.length + s.length
 | [],w,l,h=>by simp [lnsL] at h
 | c :: s,w,l,h=>by
   unfold lnsL at h
   split at h
   · rcases List.mem_cons.1 h with rfl | q
     · simp
     · have:=lns_len s [] l q
       simp at this ⊢;omega
   · have:=lns_len s (w++[c]) l h
     simp at this ⊢;omega
theorem lnsL_mk:∀ (a w b:List UInt8),(10:UInt8) ∉ a→lnsL w (a++10 :: b)=((w++a) :: (lnsL [] b).1,(lnsL [] b).2)
 | [],w,b,_=>by simp [lnsL]
 | x :: a,w,b,h=>by
   have h1:x≠10:=fun e=>h (by simp [e])
   have h2:=lnsL_mk a (w++[x]) b (fun q=>h (List.mem_cons_of_mem _ q))
   simp only [List.cons_append,lnsL,h1,if_false]
   rw [h2];simp
theorem lns_back:∀ (s w:List UInt8),(lnsL w s).1.flatMap (fun l=>l++[10])++(lnsL w s).2=w++s
 | [],w=>by simp [lnsL]
 | c :: s,w=>by
   unfold lnsL
   split
   · rename_i hc
     have:=lns_back s []
     simp only [List.flatMap_cons,List.append_assoc]
     rw [this];simp [hc]
   · have:=lns_back s (w++[c])
     rw [this];simp
def scrT (l:List Ev):List UInt8:=l.flatMap fun e=>e.txt++[10]
theorem bits_no10 (l:List Bool):(10:UInt8) ∉ bitsT l:=by
 simp only [bitsT,List.mem_map,not_exists,not_and]
 intro b _
 cases b <;> decide
theorem hexS_no10:∀ s:List UInt8,(10:UInt8) ∉ hexS s
 | []=>by decide
 | b :: s=>by
   have h:∀ y:Fin 16,hx y.val≠10:=by decide +kernel
   intro q
   have q:(10:UInt8)∈hexL (b :: s):=q
   rw [hexL,List.mem_flatMap] at q
   obtain ⟨c,_,hc⟩:=q
   have hb:c.toNat < 256:=UInt8.toNat_lt c
   simp only [hx2,List.mem_cons,List.not_mem_nil,or_false] at hc
   rcases hc with hc | hc
   · exact h ⟨c.toNat / 16,by omega⟩ hc.symm
   · exact h ⟨c.toNat % 16,by omega⟩ hc.symm
theorem no10 (n:Nat):(10:UInt8) ∉ dec n:=dec_no n 10 (.inl (by decide))
theorem txt_no10 (e:Ev) (h:e.fine):(10:UInt8) ∉ e.txt:=by
 have hk:(10:UInt8) ∉ kindName e.kind:=by
   have:∀ y:Fin 7,(10:UInt8) ∉ kindName y.val:=by decide +kernel
   exact this ⟨e.kind,h.1⟩
 have n1:=no10 e.a.toNat;have n2:=no10 e.txn;have n3:=no10 e.page;have n4:=no10 e.off.toNat
 have n5:=hexS_no10 e.s;have n6:=bits_no10 e.keep
 unfold Ev.txt
 split
 · rename_i k0
   have h7:e.kind=0→e.a < 10∧e.ck < 8∧_:=h.2.2.2.2.2.2.1
   have hn:(10:UInt8) ∉ nameOf e.ck:=by
     have:∀ y:Fin 8,(10:UInt8) ∉ nameOf y.val:=by decide +kernel
     exact this ⟨e.ck,(h7 k0).2.1⟩
   split <;> split <;> split <;> simp_all
 · split
   · split <;> simp_all
   · simp_all
theorem lns_scr:∀ l:List Ev,(∀ e∈l,e.fine)→lnsL [] (scrT l)=(l.map Ev.txt,[])
 | [],_=>rfl
 | e :: l,h=>by
   have ih:=lns_scr l fun x hx=>h x (List.mem_cons_of_mem _ hx)
   have:scrT (e :: l)=e.txt++10 :: scrT l:=by simp [scrT]
   rw [this,lnsL_mk _ _ _ (txt_no10 e (h e List.mem_cons_self)),ih];simp
theorem prs_scr:∀ (l:List Ev) (n:Nat) (out:List Ev),(∀ e∈l,e.fine∧e.page < 65536)→n + l.length≤2000→prsL evT n (l.map Ev.txt) [] out=(out++l,0,0)
 | [],n,out,_,_=>by simp [prsL]
 | e :: l,n,out,h,hn=>by
   have he:=h e List.mem_cons_self
   simp only [List.length_cons] at hn
   have hv:=evT_txt e he.2 he.1
   have hk:lnOk evT e.txt:=by unfold lnOk;rw [hv];exact ⟨he.1,rfl⟩
   rw [List.map_cons,prsL,if_neg (by omega),if_pos hk,prs_scr l (n + 1) _ (fun x hx=>h x (List.mem_cons_of_mem _ hx)) (by omega),hv]
   simp
theorem prs_ok (f:List UInt8→Ev):∀ (ls:List (List UInt8)) (n:Nat) (rest:List UInt8) (out:List Ev),(prsL f n ls rest out).2.2=0→prsL f n ls rest out=(out++ls.map f,0,0)∧rest=[]∧(∀ l∈ls,lnOk f l)∧(n≤2000→n + ls.length≤2000)
 | [],n,rest,out,h=>by
   unfold prsL at h ⊢
   by_cases hr:rest=[]
   · simp [hr]
   · rw [if_neg hr] at h
     split at h <;> simp at h
 | l :: ls,n,rest,out,h=>by
   unfold prsL at h ⊢
   by_cases hn:2000 < n + 1
   · rw [if_pos hn] at h;simp at h
   · rw [if_neg hn] at h ⊢
     by_cases ho:lnOk f l
     · rw [if_pos ho] at h ⊢
       obtain ⟨h1,h2,h3,h4⟩:=prs_ok f ls (n + 1) rest _ h
       refine ⟨by rw [h1];simp,h2,fun x hx=>?_,fun _=>by have:=h4 (by omega);simp;omega⟩
       rcases List.mem_cons.1 hx with rfl | q
       · exact ho
       · exact h3 x q
     · rw [if_neg ho] at h;simp at h
theorem prs_no (f:List UInt8→Ev):∀ (ls:List (List UInt8)) (n:Nat) (rest:List UInt8) (out:List Ev),(prsL f n ls rest out).2.2≠0→(prsL f n ls rest out).1=[]
 | [],n,rest,out,h=>by
   unfold prsL at h ⊢
   split
   · rename_i hr;rw [if_pos hr] at h;simp at h
   · split <;> rfl
 | l :: ls,n,rest,out,h=>by
   unfold prsL at h ⊢
   by_cases hn:2000 < n + 1
   · rw [if_pos hn]
   · rw [if_neg hn] at h ⊢
     by_cases ho:lnOk f l
     · rw [if_pos ho] at h ⊢;exact prs_no f ls (n + 1) rest _ h
     · rw [if_neg ho]
end Go.Proofs.YtcglbpjpbjaecaaGreat.Sh
namespace Go.Proofs.YtcglbpjpbjaecaaGreat.Sh
open Go Go.Ab Go.RowKit
open Go.Proofs.YtcglbpjpbjaecaaGreat.Ru (Pg okP)
open Go.Proofs.YtcglbpjpbjaecaaGreat.Sj (cutAt cutP cut_idx idxB)
set_option maxRecDepth 10000
theorem print_ok:∀ (l:List Ev) (out t:List UInt8),printL l out=(t,0)→(∀ e∈l,e.fine)∧t=out++scrT l∧(out.length≤131072→t.length≤131072)
 | [],out,t,h=>by
   simp only [printL,Prod.mk.injEq] at h
   obtain ⟨rfl,_⟩:=h
   exact ⟨fun _ q=>by simp at q,by simp [scrT],fun q=>q⟩
 | e :: l,out,t,h=>by
   unfold printL at h
   by_cases hf:e.fine
   · rw [if_pos hf] at h
     by_cases hn:131072 < out.length + (e.txt.length + 1)
     · rw [if_pos hn] at h;simp at h
     · rw [if_neg hn] at h
       obtain ⟨h1,h2,h3⟩:=print_ok l _ t h
       refine ⟨fun x hx=>?_,by rw [h2];simp [scrT],fun _=>h3 (by simp;omega)⟩
       rcases List.mem_cons.1 hx with rfl | q
       · exact hf
       · exact h1 x q
   · rw [if_neg hf] at h;simp at h
theorem print_mk:∀ (l:List Ev) (out:List UInt8),(∀ e∈l,e.fine)→(out++scrT l).length≤131072→printL l out=(out++scrT l,0)
 | [],out,_,_=>by simp [printL,scrT]
 | e :: l,out,h,hn=>by
   have e1:scrT (e :: l)=(e.txt++[10])++scrT l:=by simp [scrT]
   rw [e1] at hn ⊢
   simp only [List.length_append,List.length_cons,List.length_nil] at hn
   rw [printL,if_pos (h e List.mem_cons_self),if_neg (by omega),print_mk l _ (fun x hx=>h x (List.mem_cons_of_mem _ hx)) (by simp only [List.length_append,List.length_cons,List.length_nil];omega)]
   simp
theorem par_print {l:List Ev} (hp:∀ e∈l,e.page < 65536) {t:List UInt8} (h:printF l=(t,0)):parT evT t=(l,0,0):=by
 unfold printF at h
 by_cases hn:2000 < l.length
 · rw [if_pos hn] at h;simp at h
 · rw [if_neg hn] at h
   obtain ⟨h1,h2,h3⟩:=print_ok l [] t h
   have h3:=h3 (by simp)
   rw [List.nil_append] at h2
   unfold parT
   rw [if_neg (by omega),h2,lns_scr l h1]
   have:=prs_scr l 0 [] (fun e he=>⟨h1 e he,hp e he⟩) (by omega)
   simpa using this
theorem print_par {s:List UInt8} (h:(parT evT s).2.2=0):printF (parT evT s).1=(s,0)∧(parT evT s).2.1=0:=by
 unfold parT at h ⊢
 by_cases hn:131072 < s.length
 · rw [if_pos hn] at h;simp at h
 · rw [if_neg hn] at h ⊢
   obtain ⟨h1,h2,h3,h4⟩:=prs_ok evT _ _ _ _ h
   have hb:=lns_back s []
   rw [h2,List.append_nil,List.nil_append] at hb
   have e1:scrT ((lnsL [] s).1.map evT)=s:=by
     have:∀ ls:List (List UInt8),(∀ l∈ls,lnOk evT l)→scrT (ls.map evT)=ls.flatMap (fun l=>l++[10]):=by
       intro ls
       induction ls with
       | nil=>intro _;rfl
       | cons l ls ih =>
         intro hl
         have:=ih fun x hx=>hl x (List.mem_cons_of_mem _ hx)
         simp only [scrT,List.map_cons,List.flatMap_cons] at this ⊢
         rw [this,(hl l List.mem_cons_self).2]
     exact (this _ h3).trans hb
   rw [h1,h2] at *
   refine ⟨?_,rfl⟩
   have h4:=h4 (by omega)
   simp only [List.nil_append]
   unfold printF
   rw [if_neg (by simp;omega),print_mk]
   · rw [List.nil_append,e1]
   · intro e he
     obtain ⟨l,hl,rfl⟩:=List.mem_map.1 he
     exact (h3 l hl).1
   · rw [List.nil_append,e1];omega
theorem par_no {s:List UInt8} (f:List UInt8→Ev) (h:(parT f s).2.2≠0):(parT f s).1=[]:=by
 unfold parT at h ⊢
 by_cases hn:131072 < s.length
 · rw [if_pos hn]
 · rw [if_neg hn] at h ⊢
   exact prs_no f _ _ _ _ h
end Go.Proofs.YtcglbpjpbjaecaaGreat.Sh
