import Derived.Test.YtdfgfbammkojoaaF12
import Derived.Test.YtdfgfbammkojoaaProg
import Derived.Test.YtdfgfbammkojoaaF05
import Derived.Test.YtdfgfbammkojoaaF07
import Derived.Test.YtdfgfbammkojoaaF06
set_option linter.unusedVariables false
set_option linter.unusedSimpArgs false
namespace Go.Proofs.Ytdfgfbammkojoaa.Ru
open Go Go.Ab Go.RowKit
noncomputable abbrev Pg:Program:=Try.prog
set_option maxRecDepth 100000
theorem okAll:((List.range Pg.types.size).all fun t=>layAt Pg t && zeroAt Pg t)=true:=by kernel_rfl
theorem okP:Ok Pg:=ok_of Pg fun t ht=>List.all_eq_true.1 okAll t (List.mem_range.2 ht)
noncomputable def F2:FD:=⟨1,Try.f2.results.toList,(Try.f2.body).getD .skip,false,false⟩
noncomputable def F3:FD:=⟨131,Try.f3.results.toList,(Try.f3.body).getD .skip,false,false⟩
theorem ok3:FdOk Pg 3 F3:=⟨Try.f3,Try.func3,by kernel_rfl,by kernel_rfl,rfl,by kernel_rfl⟩
def PT:T8 Unit:=(.node none (.node none (.node none .nil (.node (some ()) .nil .nil .nil .nil .nil .nil .nil .nil) .nil .nil .nil .nil .nil .nil) (.node (some ()) .nil .nil .nil .nil .nil .nil .nil .nil) (.node (some ()) .nil .nil .nil .nil .nil .nil .nil .nil) (.node (some ()) .nil (.node (some ()) .nil .nil .nil .nil .nil .nil .nil .nil) .nil .nil .nil .nil .nil .nil) .nil .nil .nil (.node (some ()) .nil .nil .nil .nil .nil .nil .nil .nil)) (.node none (.node none .nil (.node (some ()) .nil .nil .nil .nil .nil .nil .nil .nil) .nil .nil .nil .nil .nil .nil) (.node (some ()) .nil .nil .nil .nil .nil .nil .nil .nil) (.node (some ()) .nil (.node (some ()) .nil .nil .nil .nil .nil .nil .nil .nil) .nil .nil .nil .nil .nil .nil) (.node (some ()) .nil .nil .nil .nil .nil .nil .nil .nil) .nil (.node (some ()) .nil (.node (some ()) .nil .nil .nil .nil .nil .nil .nil .nil) .nil .nil .nil .nil .nil .nil) .nil (.node (some ()) .nil .nil .nil .nil .nil .nil .nil .nil)) (.node none .nil .nil (.node none .nil (.node (some ()) .nil .nil .nil .nil .nil .nil .nil .nil) .nil .nil .nil .nil .nil .nil) .nil .nil .nil (.node (some ()) .nil .nil .nil .nil .nil .nil .nil .nil) .nil) (.node none .nil (.node (some ()) .nil .nil .nil .nil .nil .nil .nil .nil) (.node none .nil (.node (some ()) .nil .nil .nil .nil .nil .nil .nil .nil) .nil .nil .nil .nil .nil .nil) .nil .nil (.node (some ()) .nil .nil .nil .nil .nil .nil .nil .nil) .nil (.node (some ()) .nil .nil .nil .nil .nil .nil .nil .nil)) (.node none .nil .nil (.node (some ()) .nil .nil .nil .nil .nil .nil .nil .nil) .nil .nil (.node none .nil (.node (some ()) .nil .nil .nil .nil .nil .nil .nil .nil) .nil .nil .nil .nil .nil .nil) .nil .nil) (.node none (.node none .nil (.node (some ()) .nil .nil .nil .nil .nil .nil .nil .nil) .nil .nil .nil .nil .nil .nil) .nil (.node (some ()) .nil .nil .nil .nil .nil .nil .nil .nil) (.node (some ()) .nil .nil .nil .nil .nil .nil .nil .nil) (.node (some ()) .nil .nil .nil .nil .nil .nil .nil .nil) (.node (some ()) .nil .nil .nil .nil .nil .nil .nil .nil) (.node (some ()) .nil .nil .nil .nil .nil .nil .nil .nil) .nil) (.node none .nil (.node none .nil (.node (some ()) .nil .nil .nil .nil .nil .nil .nil .nil) .nil .nil .nil .nil .nil .nil) .nil (.node (some ()) .nil .nil .nil .nil .nil .nil .nil .nil) (.node (some ()) .nil .nil .nil .nil .nil .nil .nil .nil) .nil (.node (some ()) .nil .nil .nil .nil .nil .nil .nil .nil) .nil) (.node (some ()) (.node none .nil (.node (some ()) .nil .nil .nil .nil .nil .nil .nil .nil) .nil .nil .nil .nil .nil .nil) (.node (some ()) .nil .nil .nil .nil .nil .nil .nil .nil) (.node none .nil (.node (some ()) .nil .nil .nil .nil .nil .nil .nil .nil) .nil .nil .nil .nil .nil .nil) (.node (some ()) .nil .nil .nil .nil .nil .nil .nil .nil) (.node (some ()) .nil .nil .nil .nil .nil .nil .nil .nil) .nil (.node (some ()) .nil .nil .nil .nil .nil .nil .nil .nil) (.node (some ()) .nil .nil .nil .nil .nil .nil .nil .nil)))
noncomputable def pu:FuncId→Bool:=fun f=>(T8.get (path f) PT).isSome
def crcStep (r:Nat):Nat:=Nat.xor (Nat.shiftRight r 1) (Nat.mul 3988292384 (Nat.land r 1))
def crc8:Nat→Nat→Nat
 | 0,r=>r
 | n + 1,r=>crc8 n (crcStep r)
noncomputable def crcGo:List UInt8→Nat→Nat
 | [],r=>r
 | b :: s,r=>fNat (crc8 8 (Nat.xor r b.toNat)) fun r=>crcGo s r
noncomputable def crcMore (sum:Nat) (s:List UInt8):Nat:=Nat.xor (crcGo s (Nat.xor sum 4294967295)) 4294967295
noncomputable def hd:HdF:=fun f a=>match Nat.beq f 87 with
 | true=>(match a with
   | [.int .u32 (.ofNat n),.str s]=>bif Nat.blt n 4294967296 && Nat.blt s.length 1000000 then some (.int .u32 (.ofNat (crcMore n s))) else none
   | _=>none)
 | false=>none
end Go.Proofs.Ytdfgfbammkojoaa.Ru
namespace Go.Ab
open Go
def floB (h0 h:AH) (r:Option (AO × (Nat→V))) (K:V→AH→Prop):Prop :=
 match r with
 | some (ob,mk)=>OwnBut h0 h∧K (mk h.next) (h.make ob)
 | none=>False
theorem flo_mk {P:Program} {h0 h:AH} {t:TypeId} {z:V} {K:V→AH→Prop} (hz:zeroV P t=some z) (hs:hasShape P z t=true) (ho:oldV (fun _=>false) z=true) (hown:∀ n o,h.m n=some o→o.isOwn=true)
   (k:K (.ptr (some ⟨h.next,.one t,[]⟩)) (h.make (.cells true (.one t) z))):floB h0 h (floOp P (fun _=>.und) (.alloc t)) K:=by
 simp only [floB,floOp,hz,hs,ho,Bool.and_self,if_true]
 exact ⟨fun n o hm=>.inl (hown n o hm),k⟩
theorem flo_mkB {P:Program} {h0 h:AH} {t:TypeId} {z:V} {K:V→AH→Prop} (hz:zeroV P t=some z) (hs:hasShape P z t=true) (ho:oldV (fun _=>false) z=true) (hown:OwnBut h0 h)
   (k:K (.ptr (some ⟨h.next,.one t,[]⟩)) (h.make (.cells true (.one t) z))):floB h0 h (floOp P (fun _=>.und) (.alloc t)) K:=by
 simp only [floB,floOp,hz,hs,ho,Bool.and_self,if_true]
 exact ⟨hown,k⟩
def floMk (P:Program) (t:TypeId) (l c:V):Option (AO × (Nat→V)) :=
 match aMakeSlice P AH0 t l c with
 | some (.slc (some (⟨_,.row e,[]⟩,0)) m,h)=>match h.m 0 with
   | some o=>if oldO o then some (o,fun n=>.slc (some (⟨n,.row e,[]⟩,0)) m) else none
   | none=>none
 | _=>none
theorem flo_slc {P:Program} {h0 h:AH} {o:AO} {e m:Nat} {t:TypeId} {l c:V} {K:V→AH→Prop} (hf:floMk P t l c=some (o,fun n=>.slc (some (⟨n,.row e,[]⟩,0)) m)) (hown:OwnBut h0 h)
   (k:K (.slc (some (⟨h.next,.row e,[]⟩,0)) m) (h.make o)):floB h0 h (floMk P t l c) K:=by
 rw [hf];exact ⟨hown,k⟩
end Go.Ab
namespace Go.Proofs.Ytdfgfbammkojoaa.Sh
open Go Go.Ab Go.RowKit
open Go.Proofs.Ytdfgfbammkojoaa.Ru (Pg okP)
set_option maxRecDepth 100000
noncomputable def B5:Code:=(Try.f5.body).getD .skip
def R5:List ResultVar:=[.tmp 4]
abbrev N5:Nat:=105
def K5:KT:=(.seq .leaf (.join (.join (.reg [[0,3,4,13,16],[0,3,4,18,21],[0,3,4,23,26]]) (.two (.seq .leaf .leaf [4]) .leaf) [0,3,4,27]) (.seq (.efn [6,10,11] [10] 11 6) (.join (.seq .leaf (.two (.seq .leaf .leaf [4]) .leaf) [0,3,4,5,6,39]) (.seq .leaf (.seq (.eff [14]) (.join (.seq .leaf (.two (.seq .leaf .leaf [4]) .leaf) [0,3,4,5,6,62]) (.join (.seq .leaf (.two .leaf .leaf) [0,3,4,5,70]) (.seq .leaf (.join (.seq .leaf (.seq .leaf (.two (.seq .leaf .leaf [4]) .leaf) [0,3,4,5,10,90]) [0,3,4,5,10]) (.seq (.efn [7] [] 0 7) (.seq .leaf (.seq .leaf .leaf [4]) []) [0,3,4,5]) [0,3,4,5]) [0,3,4,5,7]) [0,3,4,5]) [0,3,4,5]) [0,3,4,5,6]) [0,3,4,5]) [0,3,4,5]) [0,3,4,5,6]) [0,3,4]) [0,3,4])
def Jz66 (Q:AEnd→AH→Prop) (ds:List AD) (x0 x3 x4 x5:V) (h:AH):Prop:=vcAtF Pg N5 B5 K5 [1,1,1,1,1,1,1,1,1,1] (vcRetD Pg R5 Q) ds [(0,x0),(3,x3),(4,x4),(5,x5)] h
def Jz65 (Q:AEnd→AH→Prop) (ds:List AD) (x0 x3 x4 x5:V) (h:AH):Prop:=vcAtF Pg N5 B5 K5 [1,1,1,1,1,1,1,1] (vcRetD Pg R5 Q) ds [(0,x0),(3,x3),(4,x4),(5,x5)] h
def Jz64 (Q:AEnd→AH→Prop) (ds:List AD) (x0 x3 x4 x5:V) (h:AH):Prop:=vcAtF Pg N5 B5 K5 [1,1,1,1,1,1,1] (vcRetD Pg R5 Q) ds [(0,x0),(3,x3),(4,x4),(5,x5)] h
def Jz63 (Q:AEnd→AH→Prop) (ds:List AD) (x0 x3 x4 x5:V) (h:AH):Prop:=vcAtF Pg N5 B5 K5 [1,1,1,1] (vcRetD Pg R5 Q) ds [(0,x0),(3,x3),(4,x4),(5,x5)] h
def Jz62 (Q:AEnd→AH→Prop) (ds:List AD) (x0 x3 x4:V) (h:AH):Prop:=vcAtF Pg N5 B5 K5 [1,1] (vcRetD Pg R5 Q) ds [(0,x0),(3,x3),(4,x4)] h
def Jz61 (Q:AEnd→AH→Prop) (ds:List AD) (x0 x3 x4 x27:V) (h:AH):Prop:=vcAtF Pg N5 B5 K5 [1,0,1] (vcRetD Pg R5 Q) ds [(0,x0),(3,x3),(4,x4),(27,x27)] h
def Gz1f (Q:AEnd→AH→Prop) (ds:List AD) (x0 x3 x4 x23 x26:V) (h:AH):Prop:=segAtF Pg N5 B5 K5 [1,0,0] 6 3 (vcRetD Pg R5 Q) ds [(0,x0),(3,x3),(4,x4),(23,x23),(26,x26)] h
def Gz1e (Q:AEnd→AH→Prop) (ds:List AD) (x0 x3 x4 x18 x21:V) (h:AH):Prop:=segAtF Pg N5 B5 K5 [1,0,0] 4 2 (vcRetD Pg R5 Q) ds [(0,x0),(3,x3),(4,x4),(18,x18),(21,x21)] h
def Gz1d (Q:AEnd→AH→Prop) (ds:List AD) (x0 x3 x4 x13 x16:V) (h:AH):Prop:=segAtF Pg N5 B5 K5 [1,0,0] 2 1 (vcRetD Pg R5 Q) ds [(0,x0),(3,x3),(4,x4),(13,x13),(16,x16)] h
theorem Jz66_eq (Q:AEnd→AH→Prop) (ds:List AD) (x0 x3 x4 x5:V) (h:AH):Jz66 Q ds x0 x3 x4 x5 h=(
 bindO (fstV (aNil x0 h)) fun v85 =>
 bindO (fstV (still (aFieldAddr Pg 68 v85 2) h)) fun v86 =>
 bindO (fstV (aLoadV Pg h 47 v86)) fun v87 =>
 (
 bindO (fstV (still (aFieldAddr Pg 38 x3 1) h)) fun v88 =>
 bindO (fstV (aLoadV Pg h 29 v88)) fun v89 =>
 (
 bindO (fstV (aLoadV Pg h 31 x5)) fun v90 =>
 (
 ACalls Pg 27 [v87,v89,v90] h (aEnd (fun v91 h92=>(
 bindV (still (aFieldAddr Pg 38 x3 1) h92) fun v93 h94 =>
 bindV (aLoadV Pg h94 29 v93) fun v95 h96 =>
 bindV (aLoadV Pg h96 31 x5) fun v97 h98 =>
 ACalls Pg 28 [x0,v95,v97] h98 (aEnd (fun v99 h100 =>
 aLeaves Pg R5 Q [(V.int .i64 0)] ds none h100) fun v h=>aLeaves Pg R5 Q [x4] ds (some v) h))) fun _ _=>False))))):=by kernel_rfl
theorem Jz65_eq (Q:AEnd→AH→Prop) (ds:List AD) (x0 x3 x4 x5:V) (h:AH):Jz65 Q ds x0 x3 x4 x5 h=(
 bindV (aLoadV Pg h 38 x3) fun v63 h64 =>
 ACalls Pg 25 [v63] h64 (aEnd (fun v65 h66 =>
 bindV (still (aExtract v65 0) h66) fun v67 h68 =>
 bindV (still (aExtract v65 1) h68) fun v69 h70 =>
 bindV (aNil x0 h70) fun v71 h72 =>
 bindV (still (aFieldAddr Pg 68 v71 1) h72) fun v73 h74 =>
 bindV (aLoadV Pg h74 43 v73) fun v75 h76 =>
 ACalls Pg 26 [v75,v67] h76 (aEnd (fun v77 h78 =>
 bindV (still (aExtract v77 0) h78) fun v79 h80 =>
 bindV (still (aExtract v77 1) h80) fun v81 h82 =>
 bindV (still (aBin Pg .neq 39 v81 (V.int .i64 0) true) h82) fun v83 h84 =>
 vcIf v83 (
 aLeaves Pg R5 Q [v81] ds none h84) (
 Meet (Jz66 Q ds x0 x3 x4 x5 h84))) fun v h=>aLeaves Pg R5 Q [x4] ds (some v) h)) fun v h=>aLeaves Pg R5 Q [x4] ds (some v) h)):=by kernel_rfl
theorem Jz64_eq (Q:AEnd→AH→Prop) (ds:List AD) (x0 x3 x4 x5:V) (h:AH):Jz64 Q ds x0 x3 x4 x5 h=(
 bindO (fstV (aNil x0 h)) fun v47 =>
 bindO (fstV (still (aFieldAddr Pg 68 v47 2) h)) fun v48 =>
 bindO (fstV (aLoadV Pg h 47 v48)) fun v49 =>
 bindO (fstV (still (aFieldAddr Pg 38 x3 1) h)) fun v50 =>
 bindO (fstV (aLoadV Pg h 29 v50)) fun v51 =>
 ∃ v52,ACalls Pg 24 [v49,v51] h (pureE v52 h)∧(
 vcIf v52 (
 bindV (still (aFieldAddr Pg 38 x3 1) h) fun v53 h54 =>
 bindV (aLoadV Pg h54 29 v53) fun v55 h56 =>
 bindV (aLoadV Pg h56 31 x5) fun v57 h58 =>
 bindV (still (aBuild Pg 38 [(0,(V.int .u8 1)),(1,v55),(2,v57)]) h58) fun v59 h60 =>
 bindV (aStoreV Pg h60 38 x3 v59) fun _ h62 =>
 Meet (Jz65 Q ds x0 x3 x4 x5 h62)) (
 Meet (Jz65 Q ds x0 x3 x4 x5 h)))):=by kernel_rfl
theorem Jz63_eq (Q:AEnd→AH→Prop) (ds:List AD) (x0 x3 x4 x5:V) (h:AH):Jz63 Q ds x0 x3 x4 x5 h=(
 bindO (fstV (aNil x0 h)) fun v26 =>
 bindO (fstV (still (aFieldAddr Pg 68 v26 2) h)) fun v27 =>
 bindO (fstV (aLoadV Pg h 47 v27)) fun v28 =>
 bindO (fstV (still (aFieldAddr Pg 38 x3 1) h)) fun v29 =>
 bindO (fstV (aLoadV Pg h 29 v29)) fun v30 =>
 bindO (fstV (still (aFieldAddr Pg 38 x3 1) h)) fun v31 =>
 bindO (fstV (aLoadV Pg h 29 v31)) fun v32 =>
 (
 bindO (fstV (aLoadV Pg h 31 x5)) fun v33 =>
 (
 bindO (fstV (aNil x0 h)) fun v34 =>
 bindO (fstV (still (aFieldAddr Pg 68 v34 1) h)) fun v35 =>
 bindO (fstV (aLoadV Pg h 43 v35)) fun v36 =>
 (
 ∃ v37,ACalls Pg 8 [v36] h (pureE v37 h)∧(
 (
 bindO (fstV (aLoadV Pg h 38 x3)) fun v38 =>
 (
 bindO (fstV (still (aBuild Pg 72 [(0,v37),(1,v38)]) h)) fun v39 =>
 ∃ v40,ACalls Pg 23 [v32,v33,v39] h (pureE v40 h)∧(
 (
 bindO (fstV (still (aExtract v40 0) h)) fun v41 =>
 bindO (fstV (still (aExtract v40 1) h)) fun v42 =>
 bindV (aStoreV Pg h 31 x5 v41) fun _ h44=>(
 bindV (still (aBin Pg .neq 39 v42 (V.int .i64 0) true) h44) fun v45 h46 =>
 vcIf v45 (
 aLeaves Pg R5 Q [v42] ((22,[v28,v30]) :: ds) none h46) (
 Meet (Jz64 Q ((22,[v28,v30]) :: ds) x0 x3 x4 x5 h46)))))))))))):=by kernel_rfl
theorem Jz62_eq (Q:AEnd→AH→Prop) (ds:List AD) (x0 x3 x4:V) (h:AH):Jz62 Q ds x0 x3 x4 h=(
 bindO (fstV (aNil x0 h)) fun v11 =>
 bindO (fstV (still (aFieldAddr Pg 68 v11 2) h)) fun v12 =>
 bindO (fstV (aLoadV Pg h 47 v12)) fun v13 =>
 (
 bindO (fstV (still (aFieldAddr Pg 38 x3 1) h)) fun v14 =>
 bindO (fstV (aLoadV Pg h 29 v14)) fun v15 =>
 (
 ACalls Pg 10 [v13,v15] h (aEnd (fun v16 h17=>(
 bindO (fstV (still (aExtract v16 0) h17)) fun v18 =>
 bindO (fstV (still (aExtract v16 1) h17)) fun v19 =>
 floB h h17 (floOp Pg (fun _=>.und) (.alloc 31)) fun v20 h21=>(
 bindV (aStoreV Pg h21 31 v20 v18) fun _ h23=>(
 bindV (still (aBin Pg .neq 39 v19 (V.int .i64 0) true) h23) fun v24 h25 =>
 vcIf v24 (
 aLeaves Pg R5 Q [v19] ds none h25) (
 Meet (Jz63 Q ds x0 x3 x4 v20 h25)))))) fun _ _=>False)))):=by kernel_rfl
theorem Jz61_eq (Q:AEnd→AH→Prop) (ds:List AD) (x0 x3 x4 x27:V) (h:AH):Jz61 Q ds x0 x3 x4 x27 h=(
 vcIf x27 (
 aLeaves Pg R5 Q [(V.int .i64 1)] ds none h) (
 Meet (Jz62 Q ds x0 x3 x4 h))):=by kernel_rfl
theorem Gz1f_eq (Q:AEnd→AH→Prop) (ds:List AD) (x0 x3 x4 x23 x26:V) (h:AH):Gz1f Q ds x0 x3 x4 x23 x26 h=(
 bindV (aPick x23 (V.bool true) x26 h) fun v9 h10 =>
 Meet (Jz61 Q ds x0 x3 x4 v9 h10)):=by kernel_rfl
theorem Gz1e_eq (Q:AEnd→AH→Prop) (ds:List AD) (x0 x3 x4 x18 x21:V) (h:AH):Gz1e Q ds x0 x3 x4 x18 x21 h=(
 bindV (aPick x18 (V.bool true) x21 h) fun v7 h8 =>
 vcG v7 false (
 bindV (still (aFieldAddr Pg 38 x3 0) h8) fun v101 h102 =>
 bindV (aLoadV Pg h102 5 v101) fun v103 h104 =>
 bindV (still (aBin Pg .eql 5 v103 (V.int .u8 6) true) h104) fun v105 h106 =>
 Meet (Gz1f Q ds x0 x3 x4 v7 v105 h106)) (Meet (Gz1f Q ds x0 x3 x4 v7 hole h8))):=by kernel_rfl
theorem Gz1d_eq (Q:AEnd→AH→Prop) (ds:List AD) (x0 x3 x4 x13 x16:V) (h:AH):Gz1d Q ds x0 x3 x4 x13 x16 h=(
 bindV (aPick x13 (V.bool true) x16 h) fun v5 h6 =>
 vcG v5 false (
 bindV (still (aFieldAddr Pg 38 x3 0) h6) fun v107 h108 =>
 bindV (aLoadV Pg h108 5 v107) fun v109 h110 =>
 bindV (still (aBin Pg .eql 5 v109 (V.int .u8 1) true) h110) fun v111 h112 =>
 Meet (Gz1e Q ds x0 x3 x4 v5 v111 h112)) (Meet (Gz1e Q ds x0 x3 x4 v5 hole h6))):=by kernel_rfl
theorem S5 (Q:AEnd→AH→Prop) (a0 a1:V) (h:AH):vcD Pg N5 B5 K5 (vcRetD Pg R5 Q) [] (initEnv 0 [a0,a1]) h=(
 bindV (aNew Pg h 38 a1) fun v1 h2 =>
 bindV (still (aBin Pg .eql 24 a0 (V.ptr none) true) h2) fun v3 h4 =>
 vcG v3 false (
 bindV (aLoadV Pg h4 38 v1) fun v113 h114 =>
 ACalls Pg 21 [v113] h114 (aEnd (fun v115 h116 =>
 bindV (still (aUn .not v115) h116) fun v117 h118 =>
 Meet (Gz1d Q [] a0 v1 (V.int .i64 0) v3 v117 h118)) fun v h=>aLeaves Pg R5 Q [(V.int .i64 0)] [] (some v) h)) (Meet (Gz1d Q [] a0 v1 (V.int .i64 0) v3 hole h4))):=by kernel_rfl
theorem C5 (Q:AEnd→AH→Prop) (a0 a1:V) (h:AH) (c :
 bindV (aNew Pg h 38 a1) fun v1 h2 =>
 bindV (still (aBin Pg .eql 24 a0 (V.ptr none) true) h2) fun v3 h4 =>
 vcG v3 false (
 bindV (aLoadV Pg h4 38 v1) fun v113 h114 =>
 ACalls Pg 21 [v113] h114 (aEnd (fun v115 h116 =>
 bindV (still (aUn .not v115) h116) fun v117 h118 =>
 Meet (Gz1d Q [] a0 v1 (V.int .i64 0) v3 v117 h118)) fun v h=>aLeaves Pg R5 Q [(V.int .i64 0)] [] (some v) h)) (Meet (Gz1d Q [] a0 v1 (V.int .i64 0) v3 hole h4))):ACalls Pg 5 [a0,a1] h Q :=
 acalls_vcD okP Try.func5 (show Try.f5.body=some B5 from by kernel_rfl) K5 N5 R5 rfl (by kernel_rfl) (by rw [← S5 Q a0 a1 h] at c;exact c)
noncomputable def B7:Code:=(Try.f7.body).getD .skip
def R7:List ResultVar:=[.tmp 2]
abbrev N7:Nat:=9
def K7:KT:=(.seq .leaf (.join (.seq .leaf (.two (.seq .leaf .leaf [2]) .leaf) [0,4]) (.seq .leaf .leaf [2]) [0]) [0])
def Jz6t (Q:AEnd→AH→Prop) (x0:V) (h:AH):Prop:=vcAt Pg N7 B7 K7 [1,1] [] (vcRet Pg R7 Q) [(0,x0)] h
theorem Jz6t_eq (Q:AEnd→AH→Prop) (x0:V) (h:AH):Jz6t Q x0 h=(
 bindV (aNil x0 h) fun v3 h4 =>
 bindV (still (aFieldAddr Pg 68 v3 1) h4) fun v5 h6 =>
 bindV (aLoadV Pg h6 43 v5) fun v7 h8 =>
 Q (.ret v7) h8):=by kernel_rfl
theorem S7 (Q:AEnd→AH→Prop) (a0:V) (h:AH):vc Pg N7 B7 K7 (vcRet Pg R7 Q) (initEnv 0 [a0]) h=(
 bindV (still (aBin Pg .eql 24 a0 (V.ptr none) true) h) fun v1 h2 =>
 vcIf v1 (
 Q (.ret (V.ptr none)) h2) (
 Meet (Jz6t Q a0 h2))):=by kernel_rfl
theorem C7 (Q:AEnd→AH→Prop) (a0:V) (h:AH) (c :
 bindV (still (aBin Pg .eql 24 a0 (V.ptr none) true) h) fun v1 h2 =>
 vcIf v1 (
 Q (.ret (V.ptr none)) h2) (
 Meet (Jz6t Q a0 h2))):ACalls Pg 7 [a0] h Q :=
 acalls_of_vc okP Try.func7 (show Try.f7.body=some B7 from by kernel_rfl) K7 (by rw [← S7 Q a0 h] at c;exact c)
noncomputable def B9:Code:=(Try.f9.body).getD .skip
def R9:List ResultVar:=[.tmp 2]
abbrev N9:Nat:=9
def K9:KT:=(.seq .leaf (.join (.seq .leaf (.two (.seq .leaf .leaf [2]) .leaf) [0,4]) (.seq .leaf .leaf [2]) [0]) [0])
def Jz75 (Q:AEnd→AH→Prop) (x0:V) (h:AH):Prop:=vcAt Pg N9 B9 K9 [1,1] [] (vcRet Pg R9 Q) [(0,x0)] h
theorem Jz75_eq (Q:AEnd→AH→Prop) (x0:V) (h:AH):Jz75 Q x0 h=(
 bindV (aNil x0 h) fun v3 h4 =>
 bindV (still (aFieldAddr Pg 68 v3 2) h4) fun v5 h6 =>
 bindV (aLoadV Pg h6 47 v5) fun v7 h8 =>
 Q (.ret v7) h8):=by kernel_rfl
theorem S9 (Q:AEnd→AH→Prop) (a0:V) (h:AH):vc Pg N9 B9 K9 (vcRet Pg R9 Q) (initEnv 0 [a0]) h=(
 bindV (still (aBin Pg .eql 24 a0 (V.ptr none) true) h) fun v1 h2 =>
 vcIf v1 (
 Q (.ret (V.ptr none)) h2) (
 Meet (Jz75 Q a0 h2))):=by kernel_rfl
theorem C9 (Q:AEnd→AH→Prop) (a0:V) (h:AH) (c :
 bindV (still (aBin Pg .eql 24 a0 (V.ptr none) true) h) fun v1 h2 =>
 vcIf v1 (
 Q (.ret (V.ptr none)) h2) (
 Meet (Jz75 Q a0 h2))):ACalls Pg 9 [a0] h Q :=
 acalls_of_vc okP Try.func9 (show Try.f9.body=some B9 from by kernel_rfl) K9 (by rw [← S9 Q a0 h] at c;exact c)
noncomputable def B19:Code:=(Try.f19.body).getD .skip
def R19:List ResultVar:=[.tmp 14]
abbrev N19:Nat:=50
def K19:KT:=(.seq .leaf (.seq .leaf (.seq .leaf (.join (.seq .leaf (.two (.seq .leaf .leaf [14]) .leaf) [0,8,15,16,40]) (.seq (.eff [5,8]) .leaf [14]) [0,8,15,16]) [0,8,15,16]) [0,2,8,15]) [0,2,3,4,5,6,8])
def Jz2w (Q:AEnd→AH→Prop) (x0 x8 x15 x16:V) (h:AH):Prop:=vcAt Pg N19 B19 K19 [1,1,1,1] [] (vcRet Pg R19 Q) [(0,x0),(8,x8),(15,x15),(16,x16)] h
theorem Jz2w_eq (Q:AEnd→AH→Prop) (x0 x8 x15 x16:V) (h:AH):Jz2w Q x0 x8 x15 x16 h=(
 bindO (fstV (still (aFieldAddr Pg 63 x8 1) h)) fun v33 =>
 bindO (fstV (aLoadV Pg h 3 v33)) fun v34 =>
 (
 ∃ v35 h36,ACalls Pg 49 [v34] h (pureE v35 h36)∧(
 bindO (fstV (aLoadV Pg h36 63 x8)) fun v37 =>
 (aLoadV Pg h 63 x8=some (v37,h))∧(
 bindO (fstV (still (aBuild Pg 68 [(0,x0),(1,x15),(2,x16),(3,v35),(4,v37)]) h36)) fun v38 =>
 bindV (aNew Pg h36 68 v38) fun v39 h40=>(
 Q (.ret v39) h40))))):=by kernel_rfl
theorem S19 (Q:AEnd→AH→Prop) (a0 a1 a2 a3 a4 a5 a6:V) (h:AH):vc Pg N19 B19 K19 (vcRet Pg R19 Q) (initEnv 0 [a0,a1,a2,a3,a4,a5,a6]) h=(
 bindV (aNew Pg h 63 a1) fun v1 h2 =>
 bindV (still (aFieldAddr Pg 63 v1 0) h2) fun v3 h4 =>
 bindV (aLoadV Pg h4 3 v3) fun v5 h6 =>
 bindV (still (aBin Pg .add 3 (V.int .i64 2) v5 true) h6) fun v7 h8 =>
 bindV (still (aFieldAddr Pg 63 v1 1) h8) fun v9 h10 =>
 bindV (aLoadV Pg h10 3 v9) fun v11 h12 =>
 bindV (still (aBin Pg .add 3 v7 v11 false) h12) fun v13 h14 =>
 bindV (still (aFieldAddr Pg 63 v1 2) h14) fun v15 h16 =>
 bindV (aLoadV Pg h16 3 v15) fun v17 h18 =>
 ACalls Pg 47 [a0,v13,v17,a3,a4,a5,a6] h18 (aEnd (fun v19 h20 =>
 bindV (still (aFieldAddr Pg 63 v1 0) h20) fun v21 h22 =>
 bindV (aLoadV Pg h22 3 v21) fun v23 h24 =>
 bindV (still (aFieldAddr Pg 63 v1 1) h24) fun v25 h26 =>
 bindV (aLoadV Pg h26 3 v25) fun v27 h28 =>
 ACalls Pg 48 [a0,v19,a2,v23,v27] h28 (aEnd (fun v29 h30 =>
 bindV (still (aBin Pg .eql 47 v29 (V.ptr none) true) h30) fun v31 h32 =>
 vcIf v31 (
 Q (.ret (V.ptr none)) h32) (
 Meet (Jz2w Q a0 v1 v19 v29 h32))) fun v h=>Q (.panic v) h)) fun v h=>Q (.panic v) h)):=by kernel_rfl
theorem C19 (Q:AEnd→AH→Prop) (a0 a1 a2 a3 a4 a5 a6:V) (h:AH) (c :
 bindV (aNew Pg h 63 a1) fun v1 h2 =>
 bindV (still (aFieldAddr Pg 63 v1 0) h2) fun v3 h4 =>
 bindV (aLoadV Pg h4 3 v3) fun v5 h6 =>
 bindV (still (aBin Pg .add 3 (V.int .i64 2) v5 true) h6) fun v7 h8 =>
 bindV (still (aFieldAddr Pg 63 v1 1) h8) fun v9 h10 =>
 bindV (aLoadV Pg h10 3 v9) fun v11 h12 =>
 bindV (still (aBin Pg .add 3 v7 v11 false) h12) fun v13 h14 =>
 bindV (still (aFieldAddr Pg 63 v1 2) h14) fun v15 h16 =>
 bindV (aLoadV Pg h16 3 v15) fun v17 h18 =>
 ACalls Pg 47 [a0,v13,v17,a3,a4,a5,a6] h18 (aEnd (fun v19 h20 =>
 bindV (still (aFieldAddr Pg 63 v1 0) h20) fun v21 h22 =>
 bindV (aLoadV Pg h22 3 v21) fun v23 h24 =>
 bindV (still (aFieldAddr Pg 63 v1 1) h24) fun v25 h26 =>
 bindV (aLoadV Pg h26 3 v25) fun v27 h28 =>
 ACalls Pg 48 [a0,v19,a2,v23,v27] h28 (aEnd (fun v29 h30 =>
 bindV (still (aBin Pg .eql 47 v29 (V.ptr none) true) h30) fun v31 h32 =>
 vcIf v31 (
 Q (.ret (V.ptr none)) h32) (
 Meet (Jz2w Q a0 v1 v19 v29 h32))) fun v h=>Q (.panic v) h)) fun v h=>Q (.panic v) h)):ACalls Pg 19 [a0,a1,a2,a3,a4,a5,a6] h Q :=
 acalls_of_vc okP Try.func19 (show Try.f19.body=some B19 from by kernel_rfl) K19 (by rw [← S19 Q a0 a1 a2 a3 a4 a5 a6 h] at c;exact c)
noncomputable def B28:Code:=(Try.f28.body).getD .skip
def R28:List ResultVar:=[]
abbrev N28:Nat:=35
def K28:KT:=(.seq .leaf (.seq .leaf (.two (.seq .leaf (.seq (.efn [8] [] 0 8) (.eff [6,8]) [0,4,6]) [0,4,6]) .leaf) [0,4,5,9]) [0,4,5])
theorem S28 (Q:AEnd→AH→Prop) (a0 a1 a2:V) (h:AH):vc Pg N28 B28 K28 (vcRet Pg R28 Q) (initEnv 0 [a0,a1,a2]) h=(
 bindV (aNew Pg h 29 a1) fun v1 h2 =>
 bindV (aNew Pg h2 31 a2) fun v3 h4 =>
 bindV (still (aFieldAddr Pg 29 v1 0) h4) fun v5 h6 =>
 bindV (aLoadV Pg h6 4 v5) fun v7 h8 =>
 vcIf v7 (
 bindV (still (aFieldAddr Pg 29 v1 1) h8) fun v9 h10 =>
 bindV (aLoadV Pg h10 27 v9) fun v11 h12 =>
 bindV (aLoadV Pg h12 31 v3) fun v13 h14 =>
 ACalls Pg 60 [v11,v13] h14 (aEnd (fun v15 h16 =>
 bindV (still (aExtract v15 0) h16) fun v17 h18 =>
 bindV (still (aExtract v15 1) h18) fun v19 h20 =>
 bindV (aAlloc Pg h20 129) fun v21 h22 =>
 bindV (aStoreV Pg h22 129 v21 v17) fun _ h24 =>
 bindO (fstV (aNil a0 h24)) fun v25 =>
 bindO (fstV (still (aFieldAddr Pg 68 v25 3) h24)) fun v26 =>
 bindO (fstV (aLoadV Pg h24 66 v26)) fun v27 =>
 (
 bindO (fstV (still (aFieldAddr Pg 29 v1 1) h24)) fun v28 =>
 bindO (fstV (aLoadV Pg h24 27 v28)) fun v29 =>
 (
 bindO (fstV (still (aConv Pg h24 27 3 v29) h24)) fun v30 =>
 (
 bindO (fstV (aLoadV Pg h24 129 v21)) fun v31 =>
 (
 ACalls Pg 61 [v27,v30,v31] h24 (aEnd (fun v32 h33=>(
 bindO (fstV (aNil a0 h33)) fun v34 =>
 bindO (fstV (still (aFieldAddr Pg 68 v34 2) h33)) fun v35 =>
 bindO (fstV (aLoadV Pg h33 47 v35)) fun v36 =>
 (
 bindO (fstV (aLoadV Pg h33 29 v1)) fun v37 =>
 (
 bindO (fstV (aLoadV Pg h33 129 v21)) fun v38 =>
 (
 ∃ v39 h40,ACalls Pg 63 [v38] h33 (pureE v39 h40)∧(aLoadV Pg h40 29 v1=some (v37,h40))∧(aLoadV Pg h40 47 v35=some (v36,h40))∧(
 bindO (fstV (still (aBin Pg .eql 3 v39 (V.int .i64 0) true) h40)) fun v41 =>
 ∃ v42 h43,ACalls Pg 62 [v36,v37,v41] h40 (pureE v42 h43)∧(
 Q (.ret (V.tup [])) h43))))))) fun _ _=>False)))))) fun v h=>Q (.panic v) h)) (
 Q (.ret (V.tup [])) h8)):=by kernel_rfl
theorem C28 (Q:AEnd→AH→Prop) (a0 a1 a2:V) (h:AH) (c :
 bindV (aNew Pg h 29 a1) fun v1 h2 =>
 bindV (aNew Pg h2 31 a2) fun v3 h4 =>
 bindV (still (aFieldAddr Pg 29 v1 0) h4) fun v5 h6 =>
 bindV (aLoadV Pg h6 4 v5) fun v7 h8 =>
 vcIf v7 (
 bindV (still (aFieldAddr Pg 29 v1 1) h8) fun v9 h10 =>
 bindV (aLoadV Pg h10 27 v9) fun v11 h12 =>
 bindV (aLoadV Pg h12 31 v3) fun v13 h14 =>
 ACalls Pg 60 [v11,v13] h14 (aEnd (fun v15 h16 =>
 bindV (still (aExtract v15 0) h16) fun v17 h18 =>
 bindV (still (aExtract v15 1) h18) fun v19 h20 =>
 bindV (aAlloc Pg h20 129) fun v21 h22 =>
 bindV (aStoreV Pg h22 129 v21 v17) fun _ h24 =>
 bindO (fstV (aNil a0 h24)) fun v25 =>
 bindO (fstV (still (aFieldAddr Pg 68 v25 3) h24)) fun v26 =>
 bindO (fstV (aLoadV Pg h24 66 v26)) fun v27 =>
 (
 bindO (fstV (still (aFieldAddr Pg 29 v1 1) h24)) fun v28 =>
 bindO (fstV (aLoadV Pg h24 27 v28)) fun v29 =>
 (
 bindO (fstV (still (aConv Pg h24 27 3 v29) h24)) fun v30 =>
 (
 bindO (fstV (aLoadV Pg h24 129 v21)) fun v31 =>
 (
 ACalls Pg 61 [v27,v30,v31] h24 (aEnd (fun v32 h33=>(
 bindO (fstV (aNil a0 h33)) fun v34 =>
 bindO (fstV (still (aFieldAddr Pg 68 v34 2) h33)) fun v35 =>
 bindO (fstV (aLoadV Pg h33 47 v35)) fun v36 =>
 (
 bindO (fstV (aLoadV Pg h33 29 v1)) fun v37 =>
 (
 bindO (fstV (aLoadV Pg h33 129 v21)) fun v38 =>
 (
 ∃ v39 h40,ACalls Pg 63 [v38] h33 (pureE v39 h40)∧(aLoadV Pg h40 29 v1=some (v37,h40))∧(aLoadV Pg h40 47 v35=some (v36,h40))∧(
 bindO (fstV (still (aBin Pg .eql 3 v39 (V.int .i64 0) true) h40)) fun v41 =>
 ∃ v42 h43,ACalls Pg 62 [v36,v37,v41] h40 (pureE v42 h43)∧(
 Q (.ret (V.tup [])) h43))))))) fun _ _=>False)))))) fun v h=>Q (.panic v) h)) (
 Q (.ret (V.tup [])) h8)):ACalls Pg 28 [a0,a1,a2] h Q :=
 acalls_of_vc okP Try.func28 (show Try.f28.body=some B28 from by kernel_rfl) K28 (by rw [← S28 Q a0 a1 a2 h] at c;exact c)
end Go.Proofs.Ytdfgfbammkojoaa.Sh
namespace Go.Proofs.Ytdfgfbammkojoaa.Sh
open Go Go.Ab Go.RowKit
open Go.Proofs.Ytdfgfbammkojoaa.Ru (Pg okP)
set_option maxRecDepth 100000
noncomputable def B10:Code:=(Try.f10.body).getD .skip
def R10:List ResultVar:=[.cell 4 31,.tmp 5]
abbrev N10:Nat:=189
def K10:KT:=(.seq .leaf (.join (.seq .leaf (.two (.seq .leaf .leaf [4,5]) .leaf) [0,3,4,21]) (.join (.seq .leaf (.seq .leaf (.two (.seq .leaf (.seq .leaf (.seq .leaf .leaf [4,5]) [4,6]) [0,4,6,7]) .leaf) [0,3,4,6,7,30]) [0,3,4,6,7]) (.seq .leaf (.join (.seq .leaf (.two (.seq .leaf (.join (.seq .leaf (.two (.seq .leaf .leaf [4,5]) .leaf) [0,3,4,9,67]) (.seq .leaf (.seq .leaf (.two (.seq .leaf (.seq .leaf (.two (.seq .leaf .leaf [4,5]) .leaf) [0,3,4,8,11,87]) [0,3,4,8,11]) .leaf) [0,3,4,8,77]) [0,3,4,8]) [0,3,4,9]) [0,3,4,9,10]) .leaf) [0,3,4,8,57]) (.seq (.efn [10,14,15] [14] 15 10) (.join (.seq .leaf (.two (.seq .leaf .leaf [4,5]) .leaf) [0,3,4,8,12,13,105]) (.join (.seq .leaf (.two .leaf (.eff [12])) [0,3,4,8,12,114]) (.seq .leaf (.join (.reg [[0,3,4,8,15,145,149]]) (.join (.seq .leaf (.two .leaf .leaf) [0,3,4,8,15,17,151]) (.seq (.eff [10]) (.seq (.eff [6]) (.seq .leaf (.seq .leaf (.seq .leaf (.seq .leaf .leaf [4,5]) [4,15]) [0,4,8,15]) [0,4,8,15]) [0,4,8,15]) [0,3,4,8,15]) [0,3,4,8,15,17]) [0,3,4,8,15,17]) [0,3,4,8,15,16]) [0,3,4,8,12]) [0,3,4,8,12]) [0,3,4,8,12,13]) [0,3,4,8]) [0,3,4,8]) [0,3,4]) [0,3,4]) [0,3,4])
def Jz29 (Q:AEnd→AH→Prop) (x0 x3 x4 x8 x15 x17:V) (h:AH):Prop:=vcAt Pg N10 B10 K10 [1,1,1,1,1,1,1,1,1,1,1] [] (vcRet Pg R10 Q) [(0,x0),(3,x3),(4,x4),(8,x8),(15,x15),(17,x17)] h
def Jz28 (Q:AEnd→AH→Prop) (x0 x3 x4 x8 x15 x17:V) (h:AH):Prop:=vcAt Pg N10 B10 K10 [1,1,1,1,1,1,1,1,1,1] [] (vcRet Pg R10 Q) [(0,x0),(3,x3),(4,x4),(8,x8),(15,x15),(17,x17)] h
def Gz0 (Q:AEnd→AH→Prop) (x0 x3 x4 x8 x15 x145 x149:V) (h:AH):Prop:=segAt Pg N10 B10 K10 [1,1,1,1,1,1,1,1,1,0] 2 1 [] (vcRet Pg R10 Q) [(0,x0),(3,x3),(4,x4),(8,x8),(15,x15),(145,x145),(149,x149)] h
def Jz27 (Q:AEnd→AH→Prop) (x0 x3 x4 x8 x12:V) (h:AH):Prop:=vcAt Pg N10 B10 K10 [1,1,1,1,1,1,1,1] [] (vcRet Pg R10 Q) [(0,x0),(3,x3),(4,x4),(8,x8),(12,x12)] h
def Jz26 (Q:AEnd→AH→Prop) (x0 x3 x4 x8 x12:V) (h:AH):Prop:=vcAt Pg N10 B10 K10 [1,1,1,1,1,1,1] [] (vcRet Pg R10 Q) [(0,x0),(3,x3),(4,x4),(8,x8),(12,x12)] h
def Jz25 (Q:AEnd→AH→Prop) (x0 x3 x4 x8:V) (h:AH):Prop:=vcAt Pg N10 B10 K10 [1,1,1,1,1] [] (vcRet Pg R10 Q) [(0,x0),(3,x3),(4,x4),(8,x8)] h
def Jz24 (Q:AEnd→AH→Prop) (x0 x3 x4 x9:V) (h:AH):Prop:=vcAt Pg N10 B10 K10 [1,1,1,1,0,1,0,1,1] [] (vcRet Pg R10 Q) [(0,x0),(3,x3),(4,x4),(9,x9)] h
def Jz23 (Q:AEnd→AH→Prop) (x0 x3 x4:V) (h:AH):Prop:=vcAt Pg N10 B10 K10 [1,1,1] [] (vcRet Pg R10 Q) [(0,x0),(3,x3),(4,x4)] h
def Jz22 (Q:AEnd→AH→Prop) (x0 x3 x4:V) (h:AH):Prop:=vcAt Pg N10 B10 K10 [1,1] [] (vcRet Pg R10 Q) [(0,x0),(3,x3),(4,x4)] h
theorem Jz29_eq (Q:AEnd→AH→Prop) (x0 x3 x4 x8 x15 x17:V) (h:AH):Jz29 Q x0 x3 x4 x8 x15 x17 h=(
 bindO (fstV (aNil x0 h)) fun v185 =>
 bindO (fstV (still (aFieldAddr Pg 99 v185 5) h)) fun v186 =>
 bindO (fstV (aLoadV Pg h 96 v186)) fun v187 =>
 (
 bindO (fstV (aLoadV Pg h 29 x3)) fun v188 =>
 (
 bindO (fstV (aLoadV Pg h 31 x15)) fun v189 =>
 (
 bindO (fstV (still (aBuild Pg 102 [(0,v188),(1,v189),(4,x17)]) h)) fun v190 =>
 bindO (fstV (still (aIndexAddr Pg 96 v187 x8) h)) fun v191 =>
 bindV (aStoreV Pg h 102 v191 v190) fun _ h193=>(
 bindO (fstV (aNil x0 h193)) fun v194 =>
 bindO (fstV (still (aFieldAddr Pg 99 v194 7) h193)) fun v195 =>
 bindO (fstV (aLoadV Pg h193 97 v195)) fun v196 =>
 (
 bindO (fstV (aLoadV Pg h193 29 x3)) fun v197 =>
 (
 bindV (quietly (aMapSet Pg h193 97 v196 v197 x8)) fun _ h199=>(
 bindV (aNil x0 h199) fun v200 h201 =>
 bindV (still (aFieldAddr Pg 99 v200 2) h201) fun v202 h203 =>
 bindV (aLoadV Pg h203 95 v202) fun v204 h205 =>
 ACalls Pg 40 [v204,x8] h205 (aEnd (fun v206 h207 =>
 bindV (aNil x0 h207) fun v208 h209 =>
 bindV (still (aFieldAddr Pg 99 v208 2) h209) fun v210 h211 =>
 bindV (aLoadV Pg h211 95 v210) fun v212 h213 =>
 ACalls Pg 32 [v212,x8] h213 (aEnd (fun v214 h215 =>
 bindV (aNil x0 h215) fun v216 h217 =>
 bindV (still (aFieldAddr Pg 99 v216 2) h217) fun v218 h219 =>
 bindV (aLoadV Pg h219 95 v218) fun v220 h221 =>
 ACalls Pg 33 [v220,x8] h221 (aEnd (fun v222 h223 =>
 bindV (aLoadV Pg h223 31 x15) fun v224 h225 =>
 bindV (aStoreV Pg h225 31 x4 v224) fun _ h227 =>
 bindR (aRes Pg [(4,x4),(5,(V.int .i64 0))] h227 R10) fun v=>Q (.ret v) h227) fun v h=>Q (.panic v) h)) fun v h=>Q (.panic v) h)) fun v h=>Q (.panic v) h))))))))):=by kernel_rfl
theorem Jz28_eq (Q:AEnd→AH→Prop) (x0 x3 x4 x8 x15 x17:V) (h:AH):Jz28 Q x0 x3 x4 x8 x15 x17 h=(
 vcIf x17 (
 bindV (aLoadV Pg h 29 x3) fun v179 h180 =>
 ACalls Pg 16 [v179] h180 (aEnd (fun v181 h182 =>
 bindV (aStoreV Pg h182 31 x15 v181) fun _ h184 =>
 Meet (Jz29 Q x0 x3 x4 x8 x15 x17 h184)) fun v h=>Q (.panic v) h)) (
 Meet (Jz29 Q x0 x3 x4 x8 x15 x17 h))):=by kernel_rfl
theorem Gz0_eq (Q:AEnd→AH→Prop) (x0 x3 x4 x8 x15 x145 x149:V) (h:AH):Gz0 Q x0 x3 x4 x8 x15 x145 x149 h=(
 bindV (aPick x145 (V.bool true) x149 h) fun v177 h178 =>
 Meet (Jz28 Q x0 x3 x4 x8 x15 v177 h178)):=by kernel_rfl
theorem Jz27_eq (Q:AEnd→AH→Prop) (x0 x3 x4 x8 x12:V) (h:AH):Jz27 Q x0 x3 x4 x8 x12 h=(
 bindV (aLoadV Pg h 56 x12) fun v161 h162 =>
 ACalls Pg 38 [v161] h162 (aEnd (fun v163 h164 =>
 bindV (still (aExtract v163 0) h164) fun v165 h166 =>
 bindV (still (aExtract v163 1) h166) fun v167 h168 =>
 bindV (still (aExtract v163 2) h168) fun v169 h170 =>
 bindV (aAlloc Pg h170 31) fun v171 h172 =>
 bindV (aStoreV Pg h172 31 v171 v167) fun _ h174 =>
 bindV (still (aUn .not v169) h174) fun v175 h176 =>
 vcG v175 false (
 bindV (aLoadV Pg h176 29 x3) fun v228 h229 =>
 bindV (aLoadV Pg h229 31 v171) fun v230 h231 =>
 ACalls Pg 39 [v228,v230] h231 (aEnd (fun v232 h233 =>
 bindV (still (aUn .not v232) h233) fun v234 h235 =>
 Meet (Gz0 Q x0 x3 x4 x8 v171 v175 v234 h235)) fun v h=>Q (.panic v) h)) (Meet (Gz0 Q x0 x3 x4 x8 v171 v175 hole h176))) fun v h=>Q (.panic v) h)):=by kernel_rfl
theorem Jz26_eq (Q:AEnd→AH→Prop) (x0 x3 x4 x8 x12:V) (h:AH):Jz26 Q x0 x3 x4 x8 x12 h=(
 bindV (aNil x0 h) fun v133 h134 =>
 bindV (still (aFieldAddr Pg 99 v133 5) h134) fun v135 h136 =>
 bindV (aLoadV Pg h136 96 v135) fun v137 h138 =>
 bindV (aBuiltin Pg h138 .len [96] [v137]) fun v139 h140 =>
 bindV (still (aBin Pg .eql 3 x8 v139 false) h140) fun v141 h142 =>
 vcIf v141 (
 bindV (aNil x0 h142) fun v143 h144 =>
 bindV (still (aFieldAddr Pg 99 v143 5) h144) fun v145 h146 =>
 bindV (aLoadV Pg h146 96 v145) fun v147 h148 =>
 bindV (still (aBuild Pg 102 []) h148) fun v149 h150 =>
 bindV (aBuildSlice Pg h150 96 1 [(0,v149)]) fun v151 h152 =>
 bindV (aBuiltin Pg h152 .append [96,96] [v147,v151]) fun v153 h154 =>
 bindV (aNil x0 h154) fun v155 h156 =>
 bindV (still (aFieldAddr Pg 99 v155 5) h156) fun v157 h158 =>
 bindV (aStoreV Pg h158 96 v157 v153) fun _ h160 =>
 Meet (Jz27 Q x0 x3 x4 x8 x12 h160)) (
 bindO (fstV (aNil x0 h142)) fun v236 =>
 bindO (fstV (still (aFieldAddr Pg 99 v236 7) h142)) fun v237 =>
 bindO (fstV (aLoadV Pg h142 97 v237)) fun v238 =>
 (
 bindO (fstV (aNil x0 h142)) fun v239 =>
 bindO (fstV (still (aFieldAddr Pg 99 v239 5) h142)) fun v240 =>
 bindO (fstV (aLoadV Pg h142 96 v240)) fun v241 =>
 (
 bindO (fstV (still (aIndexAddr Pg 96 v241 x8) h142)) fun v242 =>
 bindO (fstV (still (aFieldAddr Pg 102 v242 0) h142)) fun v243 =>
 bindO (fstV (aLoadV Pg h142 29 v243)) fun v244 =>
 (
 bindV (aBuiltin Pg h142 .delete [97,29] [v238,v244]) fun _ h246=>(
 Meet (Jz27 Q x0 x3 x4 x8 x12 h246))))))):=by kernel_rfl
theorem Jz25_eq (Q:AEnd→AH→Prop) (x0 x3 x4 x8:V) (h:AH):Jz25 Q x0 x3 x4 x8 h=(
 bindO (fstV (aNil x0 h)) fun v111 =>
 bindO (fstV (still (aFieldAddr Pg 99 v111 0) h)) fun v112 =>
 bindO (fstV (aLoadV Pg h 23 v112)) fun v113 =>
 (
 bindO (fstV (aNil x0 h)) fun v114 =>
 bindO (fstV (still (aFieldAddr Pg 99 v114 3) h)) fun v115 =>
 bindO (fstV (aLoadV Pg h 3 v115)) fun v116 =>
 (
 bindO (fstV (aLoadV Pg h 29 x3)) fun v117 =>
 (
 ∃ v118,ACalls Pg 37 [v116,v117] h (pureE v118 h)∧(
 (
 ACalls Pg 36 [v113,v118] h (aEnd (fun v119 h120=>(
 bindO (fstV (still (aExtract v119 0) h120)) fun v121 =>
 bindO (fstV (still (aExtract v119 1) h120)) fun v122 =>
 floB h h120 (floOp Pg (fun _=>.und) (.alloc 56)) fun v123 h124=>(
 bindV (aStoreV Pg h124 56 v123 v121) fun _ h126=>(
 bindV (still (aBin Pg .neq 39 v122 (V.int .i64 0) true) h126) fun v127 h128 =>
 vcIf v127 (
 bindV (still (aBuild Pg 31 []) h128) fun v129 h130 =>
 bindV (aStoreV Pg h130 31 x4 v129) fun _ h132 =>
 bindR (aRes Pg [(4,x4),(5,v122)] h132 R10) fun v=>Q (.ret v) h132) (
 Meet (Jz26 Q x0 x3 x4 x8 v123 h128)))))) fun _ _=>False))))))):=by kernel_rfl
theorem Jz23_eq (Q:AEnd→AH→Prop) (x0 x3 x4:V) (h:AH):Jz23 Q x0 x3 x4 h=(
 bindV (aNil x0 h) fun v49 h50 =>
 bindV (still (aFieldAddr Pg 99 v49 5) h50) fun v51 h52 =>
 bindV (aLoadV Pg h52 96 v51) fun v53 h54 =>
 bindV (aBuiltin Pg h54 .len [96] [v53]) fun v55 h56 =>
 bindV (aNil x0 h56) fun v57 h58 =>
 bindV (still (aFieldAddr Pg 99 v57 6) h58) fun v59 h60 =>
 bindV (aLoadV Pg h60 3 v59) fun v61 h62 =>
 bindV (still (aBin Pg .eql 3 v55 v61 false) h62) fun v63 h64 =>
 vcIf v63 (
 bindV (aNil x0 h64) fun v65 h66 =>
 bindV (still (aFieldAddr Pg 99 v65 2) h66) fun v67 h68 =>
 bindV (aLoadV Pg h68 95 v67) fun v69 h70 =>
 ACalls Pg 34 [v69] h70 (aEnd (fun v71 h72 =>
 bindV (still (aExtract v71 0) h72) fun v73 h74 =>
 bindV (still (aExtract v71 1) h74) fun v75 h76 =>
 bindV (still (aUn .not v75) h76) fun v77 h78 =>
 vcIf v77 (
 bindV (still (aBuild Pg 31 []) h78) fun v79 h80 =>
 bindV (aStoreV Pg h80 31 x4 v79) fun _ h82 =>
 bindR (aRes Pg [(4,x4),(5,(V.int .i64 6))] h82 R10) fun v=>Q (.ret v) h82) (
 Meet (Jz24 Q x0 x3 x4 v73 h78))) fun v h=>Q (.panic v) h)) (
 Meet (Jz25 Q x0 x3 x4 v55 h64))):=by kernel_rfl
theorem Jz22_eq (Q:AEnd→AH→Prop) (x0 x3 x4:V) (h:AH):Jz22 Q x0 x3 x4 h=(
 bindV (aLoadV Pg h 29 x3) fun v15 h16 =>
 ACalls Pg 31 [x0,v15] h16 (aEnd (fun v17 h18 =>
 bindV (still (aExtract v17 0) h18) fun v19 h20 =>
 bindV (still (aExtract v17 1) h20) fun v21 h22 =>
 bindV (still (aBin Pg .neq 90 v19 (V.ptr none) true) h22) fun v23 h24 =>
 vcIf v23 (
 bindV (aNil x0 h24) fun v25 h26 =>
 bindV (still (aFieldAddr Pg 99 v25 2) h26) fun v27 h28 =>
 bindV (aLoadV Pg h28 95 v27) fun v29 h30 =>
 ACalls Pg 32 [v29,v21] h30 (aEnd (fun v31 h32 =>
 bindV (aNil x0 h32) fun v33 h34 =>
 bindV (still (aFieldAddr Pg 99 v33 2) h34) fun v35 h36 =>
 bindV (aLoadV Pg h36 95 v35) fun v37 h38 =>
 ACalls Pg 33 [v37,v21] h38 (aEnd (fun v39 h40 =>
 bindV (aNil v19 h40) fun v41 h42 =>
 bindV (still (aFieldAddr Pg 102 v41 1) h42) fun v43 h44 =>
 bindV (aLoadV Pg h44 31 v43) fun v45 h46 =>
 bindV (aStoreV Pg h46 31 x4 v45) fun _ h48 =>
 bindR (aRes Pg [(4,x4),(5,(V.int .i64 0))] h48 R10) fun v=>Q (.ret v) h48) fun v h=>Q (.panic v) h)) fun v h=>Q (.panic v) h)) (
 Meet (Jz23 Q x0 x3 x4 h24))) fun v h=>Q (.panic v) h)):=by kernel_rfl
theorem S10 (Q:AEnd→AH→Prop) (a0 a1:V) (h:AH):vc Pg N10 B10 K10 (vcRet Pg R10 Q) (initEnv 0 [a0,a1]) h=(
 bindV (aNew Pg h 29 a1) fun v1 h2 =>
 bindV (aAlloc Pg h2 31) fun v3 h4 =>
 bindV (aLoadV Pg h4 29 v1) fun v5 h6 =>
 ACalls Pg 30 [a0,v5] h6 (aEnd (fun v7 h8 =>
 bindV (still (aUn .not v7) h8) fun v9 h10 =>
 vcIf v9 (
 bindV (still (aBuild Pg 31 []) h10) fun v11 h12 =>
 bindV (aStoreV Pg h12 31 v3 v11) fun _ h14 =>
 bindR (aRes Pg [(4,v3),(5,(V.int .i64 1))] h14 R10) fun v=>Q (.ret v) h14) (
 Meet (Jz22 Q a0 v1 v3 h10))) fun v h=>Q (.panic v) h)):=by kernel_rfl
theorem C10 (Q:AEnd→AH→Prop) (a0 a1:V) (h:AH) (c :
 bindV (aNew Pg h 29 a1) fun v1 h2 =>
 bindV (aAlloc Pg h2 31) fun v3 h4 =>
 bindV (aLoadV Pg h4 29 v1) fun v5 h6 =>
 ACalls Pg 30 [a0,v5] h6 (aEnd (fun v7 h8 =>
 bindV (still (aUn .not v7) h8) fun v9 h10 =>
 vcIf v9 (
 bindV (still (aBuild Pg 31 []) h10) fun v11 h12 =>
 bindV (aStoreV Pg h12 31 v3 v11) fun _ h14 =>
 bindR (aRes Pg [(4,v3),(5,(V.int .i64 1))] h14 R10) fun v=>Q (.ret v) h14) (
 Meet (Jz22 Q a0 v1 v3 h10))) fun v h=>Q (.panic v) h)):ACalls Pg 10 [a0,a1] h Q :=
 acalls_of_vc okP Try.func10 (show Try.f10.body=some B10 from by kernel_rfl) K10 (by rw [← S10 Q a0 a1 h] at c;exact c)
noncomputable def B22:Code:=(Try.f22.body).getD .skip
def R22:List ResultVar:=[.tmp 4]
abbrev N22:Nat:=24
def K22:KT:=(.seq .leaf (.seq .leaf (.join (.join (.reg [[15,22]]) (.two (.seq .leaf .leaf [4]) .leaf) [23]) (.seq .leaf .leaf [4]) []) [0,5,6]) [0,3])
def Jz2z (Q:AEnd→AH→Prop) (h:AH):Prop:=vcAt Pg N22 B22 K22 [1,1,1] [] (vcRet Pg R22 Q) [] h
def Jz2y (Q:AEnd→AH→Prop) (x23:V) (h:AH):Prop:=vcAt Pg N22 B22 K22 [1,1,0,1] [] (vcRet Pg R22 Q) [(23,x23)] h
def Gz9 (Q:AEnd→AH→Prop) (x15 x22:V) (h:AH):Prop:=segAt Pg N22 B22 K22 [1,1,0,0] 2 1 [] (vcRet Pg R22 Q) [(15,x15),(22,x22)] h
theorem Jz2z_eq (Q:AEnd→AH→Prop) (h:AH):Jz2z Q h=(
 Q (.ret (V.int .i64 0)) h):=by kernel_rfl
theorem Jz2y_eq (Q:AEnd→AH→Prop) (x23:V) (h:AH):Jz2y Q x23 h=(
 vcIf x23 (
 Q (.ret (V.int .i64 1)) h) (
 Meet (Jz2z Q h))):=by kernel_rfl
theorem Gz9_eq (Q:AEnd→AH→Prop) (x15 x22:V) (h:AH):Gz9 Q x15 x22 h=(
 bindV (aPick x15 (V.bool true) x22 h) fun v13 h14 =>
 Meet (Jz2y Q v13 h14)):=by kernel_rfl
theorem S22 (Q:AEnd→AH→Prop) (a0 a1:V) (h:AH):vc Pg N22 B22 K22 (vcRet Pg R22 Q) (initEnv 0 [a0,a1]) h=(
 bindV (aNew Pg h 29 a1) fun v1 h2 =>
 bindV (aLoadV Pg h2 29 v1) fun v3 h4 =>
 ACalls Pg 31 [a0,v3] h4 (aEnd (fun v5 h6 =>
 bindV (still (aExtract v5 0) h6) fun v7 h8 =>
 bindV (still (aExtract v5 1) h8) fun v9 h10 =>
 bindV (still (aBin Pg .eql 90 v7 (V.ptr none) true) h10) fun v11 h12 =>
 vcG v11 false (
 bindV (aNil a0 h12) fun v15 h16 =>
 bindV (still (aFieldAddr Pg 99 v15 2) h16) fun v17 h18 =>
 bindV (aLoadV Pg h18 95 v17) fun v19 h20 =>
 ACalls Pg 51 [v19,v9] h20 (aEnd (fun v21 h22 =>
 bindV (still (aUn .not v21) h22) fun v23 h24 =>
 Meet (Gz9 Q v11 v23 h24)) fun v h=>Q (.panic v) h)) (Meet (Gz9 Q v11 hole h12))) fun v h=>Q (.panic v) h)):=by kernel_rfl
theorem D22 (Q:AEnd→AH→Prop) (a0 a1:V) (h:AH) (c :
 bindV (aNew Pg h 29 a1) fun v1 h2 =>
 bindV (aLoadV Pg h2 29 v1) fun v3 h4 =>
 ACalls Pg 31 [a0,v3] h4 (aEnd (fun v5 h6 =>
 bindV (still (aExtract v5 0) h6) fun v7 h8 =>
 bindV (still (aExtract v5 1) h8) fun v9 h10 =>
 bindV (still (aBin Pg .eql 90 v7 (V.ptr none) true) h10) fun v11 h12 =>
 vcG v11 false (
 bindV (aNil a0 h12) fun v15 h16 =>
 bindV (still (aFieldAddr Pg 99 v15 2) h16) fun v17 h18 =>
 bindV (aLoadV Pg h18 95 v17) fun v19 h20 =>
 ACalls Pg 51 [v19,v9] h20 (aEnd (fun v21 h22 =>
 bindV (still (aUn .not v21) h22) fun v23 h24 =>
 Meet (Gz9 Q v11 v23 h24)) fun v h=>Q (.panic v) h)) (Meet (Gz9 Q v11 hole h12))) fun v h=>Q (.panic v) h)):ACallsD Pg 22 [a0,a1] h Q :=
 acallsD_of_vc okP Try.func22 (show Try.f22.body=some B22 from by kernel_rfl) K22 (by rw [← S22 Q a0 a1 h] at c;exact c)
noncomputable def B24:Code:=(Try.f24.body).getD .skip
def R24:List ResultVar:=[.tmp 4]
abbrev N24:Nat:=22
def K24:KT:=(.seq .leaf (.seq .leaf (.join (.reg [[15,20]]) .leaf [4]) [5]) [0,3])
def Jz37 (Q:AEnd→AH→Prop) (x4:V) (h:AH):Prop:=vcAt Pg N24 B24 K24 [1,1,1] [] (vcRet Pg R24 Q) [(4,x4)] h
def Gzc (Q:AEnd→AH→Prop) (x15 x20:V) (h:AH):Prop:=segAt Pg N24 B24 K24 [1,1,0] 2 1 [] (vcRet Pg R24 Q) [(15,x15),(20,x20)] h
theorem Jz37_eq (Q:AEnd→AH→Prop) (x4:V) (h:AH):Jz37 Q x4 h=(
 Q (.ret x4) h):=by kernel_rfl
theorem Gzc_eq (Q:AEnd→AH→Prop) (x15 x20:V) (h:AH):Gzc Q x15 x20 h=(
 bindV (aPick x15 (V.bool true) x20 h) fun v13 h14 =>
 Meet (Jz37 Q v13 h14)):=by kernel_rfl
theorem S24 (Q:AEnd→AH→Prop) (a0 a1:V) (h:AH):vc Pg N24 B24 K24 (vcRet Pg R24 Q) (initEnv 0 [a0,a1]) h=(
 bindV (aNew Pg h 29 a1) fun v1 h2 =>
 bindV (aLoadV Pg h2 29 v1) fun v3 h4 =>
 ACalls Pg 31 [a0,v3] h4 (aEnd (fun v5 h6 =>
 bindV (still (aExtract v5 0) h6) fun v7 h8 =>
 bindV (still (aExtract v5 1) h8) fun v9 h10 =>
 bindV (still (aBin Pg .eql 90 v7 (V.ptr none) true) h10) fun v11 h12 =>
 vcG v11 false (
 bindV (aNil v7 h12) fun v15 h16 =>
 bindV (still (aFieldAddr Pg 102 v15 2) h16) fun v17 h18 =>
 bindV (aLoadV Pg h18 4 v17) fun v19 h20 =>
 bindV (still (aUn .not v19) h20) fun v21 h22 =>
 Meet (Gzc Q v11 v21 h22)) (Meet (Gzc Q v11 hole h12))) fun v h=>Q (.panic v) h)):=by kernel_rfl
theorem C24 (Q:AEnd→AH→Prop) (a0 a1:V) (h:AH) (c :
 bindV (aNew Pg h 29 a1) fun v1 h2 =>
 bindV (aLoadV Pg h2 29 v1) fun v3 h4 =>
 ACalls Pg 31 [a0,v3] h4 (aEnd (fun v5 h6 =>
 bindV (still (aExtract v5 0) h6) fun v7 h8 =>
 bindV (still (aExtract v5 1) h8) fun v9 h10 =>
 bindV (still (aBin Pg .eql 90 v7 (V.ptr none) true) h10) fun v11 h12 =>
 vcG v11 false (
 bindV (aNil v7 h12) fun v15 h16 =>
 bindV (still (aFieldAddr Pg 102 v15 2) h16) fun v17 h18 =>
 bindV (aLoadV Pg h18 4 v17) fun v19 h20 =>
 bindV (still (aUn .not v19) h20) fun v21 h22 =>
 Meet (Gzc Q v11 v21 h22)) (Meet (Gzc Q v11 hole h12))) fun v h=>Q (.panic v) h)):ACalls Pg 24 [a0,a1] h Q :=
 acalls_of_vc okP Try.func24 (show Try.f24.body=some B24 from by kernel_rfl) K24 (by rw [← S24 Q a0 a1 h] at c;exact c)
noncomputable def B27:Code:=(Try.f27.body).getD .skip
def R27:List ResultVar:=[.tmp 6]
abbrev N27:Nat:=52
def K27:KT:=(.seq .leaf (.seq .leaf (.join (.join (.reg [[4,5,7,17,24],[5,7,26,30]]) (.two (.seq .leaf .leaf [6]) .leaf) [5,7,31]) (.join (.seq .leaf (.two .leaf .leaf) [5,7,36]) (.seq .leaf (.seq .leaf .leaf [6]) []) [5,7]) [5,7]) [0,4,5,7,8]) [0,4,5])
def Jz3l (Q:AEnd→AH→Prop) (x5 x7:V) (h:AH):Prop:=vcAt Pg N27 B27 K27 [1,1,1,1] [] (vcRet Pg R27 Q) [(5,x5),(7,x7)] h
def Jz3k (Q:AEnd→AH→Prop) (x5 x7:V) (h:AH):Prop:=vcAt Pg N27 B27 K27 [1,1,1] [] (vcRet Pg R27 Q) [(5,x5),(7,x7)] h
def Jz3j (Q:AEnd→AH→Prop) (x5 x7 x31:V) (h:AH):Prop:=vcAt Pg N27 B27 K27 [1,1,0,1] [] (vcRet Pg R27 Q) [(5,x5),(7,x7),(31,x31)] h
def Gzg (Q:AEnd→AH→Prop) (x5 x7 x26 x30:V) (h:AH):Prop:=segAt Pg N27 B27 K27 [1,1,0,0] 4 2 [] (vcRet Pg R27 Q) [(5,x5),(7,x7),(26,x26),(30,x30)] h
def Gzf (Q:AEnd→AH→Prop) (x4 x5 x7 x17 x24:V) (h:AH):Prop:=segAt Pg N27 B27 K27 [1,1,0,0] 2 1 [] (vcRet Pg R27 Q) [(4,x4),(5,x5),(7,x7),(17,x17),(24,x24)] h
theorem Jz3l_eq (Q:AEnd→AH→Prop) (x5 x7:V) (h:AH):Jz3l Q x5 x7 h=(
 bindV (aLoadV Pg h 31 x5) fun v43 h44 =>
 bindV (aNil x7 h44) fun v45 h46 =>
 bindV (still (aFieldAddr Pg 102 v45 1) h46) fun v47 h48 =>
 bindV (aStoreV Pg h48 31 v47 v43) fun _ h50 =>
 bindV (aNil x7 h50) fun v51 h52 =>
 bindV (still (aFieldAddr Pg 102 v51 4) h52) fun v53 h54 =>
 bindV (aStoreV Pg h54 4 v53 (V.bool false)) fun _ h56 =>
 Q (.ret (V.int .i64 0)) h56):=by kernel_rfl
theorem Jz3k_eq (Q:AEnd→AH→Prop) (x5 x7:V) (h:AH):Jz3k Q x5 x7 h=(
 bindV (aNil x7 h) fun v19 h20 =>
 bindV (still (aFieldAddr Pg 102 v19 2) h20) fun v21 h22 =>
 bindV (aLoadV Pg h22 4 v21) fun v23 h24 =>
 bindV (still (aUn .not v23) h24) fun v25 h26 =>
 vcIf v25 (
 bindV (aLoadV Pg h26 31 x5) fun v27 h28 =>
 ACalls Pg 11 [v27] h28 (aEnd (fun v29 h30 =>
 bindV (aNil x7 h30) fun v31 h32 =>
 bindV (still (aFieldAddr Pg 102 v31 2) h32) fun v33 h34 =>
 bindV (aStoreV Pg h34 4 v33 (V.bool true)) fun _ h36 =>
 bindV (aNil x7 h36) fun v37 h38 =>
 bindV (still (aFieldAddr Pg 102 v37 3) h38) fun v39 h40 =>
 bindV (aStoreV Pg h40 42 v39 v29) fun _ h42 =>
 Meet (Jz3l Q x5 x7 h42)) fun v h=>Q (.panic v) h)) (
 Meet (Jz3l Q x5 x7 h26))):=by kernel_rfl
theorem Jz3j_eq (Q:AEnd→AH→Prop) (x5 x7 x31:V) (h:AH):Jz3j Q x5 x7 x31 h=(
 vcIf x31 (
 Q (.ret (V.int .i64 1)) h) (
 Meet (Jz3k Q x5 x7 h))):=by kernel_rfl
theorem Gzg_eq (Q:AEnd→AH→Prop) (x5 x7 x26 x30:V) (h:AH):Gzg Q x5 x7 x26 x30 h=(
 bindV (aPick x26 (V.bool true) x30 h) fun v17 h18 =>
 Meet (Jz3j Q x5 x7 v17 h18)):=by kernel_rfl
theorem Gzf_eq (Q:AEnd→AH→Prop) (x4 x5 x7 x17 x24:V) (h:AH):Gzf Q x4 x5 x7 x17 x24 h=(
 bindV (aPick x17 (V.bool true) x24 h) fun v15 h16 =>
 vcG v15 false (
 bindV (aLoadV Pg h16 29 x4) fun v57 h58 =>
 bindV (aLoadV Pg h58 31 x5) fun v59 h60 =>
 ACalls Pg 39 [v57,v59] h60 (aEnd (fun v61 h62 =>
 bindV (still (aUn .not v61) h62) fun v63 h64 =>
 Meet (Gzg Q x5 x7 v15 v63 h64)) fun v h=>Q (.panic v) h)) (Meet (Gzg Q x5 x7 v15 hole h16))):=by kernel_rfl
theorem S27 (Q:AEnd→AH→Prop) (a0 a1 a2:V) (h:AH):vc Pg N27 B27 K27 (vcRet Pg R27 Q) (initEnv 0 [a0,a1,a2]) h=(
 bindV (aNew Pg h 29 a1) fun v1 h2 =>
 bindV (aNew Pg h2 31 a2) fun v3 h4 =>
 bindV (aLoadV Pg h4 29 v1) fun v5 h6 =>
 ACalls Pg 31 [a0,v5] h6 (aEnd (fun v7 h8 =>
 bindV (still (aExtract v7 0) h8) fun v9 h10 =>
 bindV (still (aExtract v7 1) h10) fun v11 h12 =>
 bindV (still (aBin Pg .eql 90 v9 (V.ptr none) true) h12) fun v13 h14 =>
 vcG v13 false (
 bindV (aNil a0 h14) fun v65 h66 =>
 bindV (still (aFieldAddr Pg 99 v65 2) h66) fun v67 h68 =>
 bindV (aLoadV Pg h68 95 v67) fun v69 h70 =>
 ACalls Pg 59 [v69,v11] h70 (aEnd (fun v71 h72 =>
 bindV (still (aBin Pg .eql 3 v71 (V.int .i64 0) true) h72) fun v73 h74 =>
 Meet (Gzf Q v1 v3 v9 v13 v73 h74)) fun v h=>Q (.panic v) h)) (Meet (Gzf Q v1 v3 v9 v13 hole h14))) fun v h=>Q (.panic v) h)):=by kernel_rfl
theorem C27 (Q:AEnd→AH→Prop) (a0 a1 a2:V) (h:AH) (c :
 bindV (aNew Pg h 29 a1) fun v1 h2 =>
 bindV (aNew Pg h2 31 a2) fun v3 h4 =>
 bindV (aLoadV Pg h4 29 v1) fun v5 h6 =>
 ACalls Pg 31 [a0,v5] h6 (aEnd (fun v7 h8 =>
 bindV (still (aExtract v7 0) h8) fun v9 h10 =>
 bindV (still (aExtract v7 1) h10) fun v11 h12 =>
 bindV (still (aBin Pg .eql 90 v9 (V.ptr none) true) h12) fun v13 h14 =>
 vcG v13 false (
 bindV (aNil a0 h14) fun v65 h66 =>
 bindV (still (aFieldAddr Pg 99 v65 2) h66) fun v67 h68 =>
 bindV (aLoadV Pg h68 95 v67) fun v69 h70 =>
 ACalls Pg 59 [v69,v11] h70 (aEnd (fun v71 h72 =>
 bindV (still (aBin Pg .eql 3 v71 (V.int .i64 0) true) h72) fun v73 h74 =>
 Meet (Gzf Q v1 v3 v9 v13 v73 h74)) fun v h=>Q (.panic v) h)) (Meet (Gzf Q v1 v3 v9 v13 hole h14))) fun v h=>Q (.panic v) h)):ACalls Pg 27 [a0,a1,a2] h Q :=
 acalls_of_vc okP Try.func27 (show Try.f27.body=some B27 from by kernel_rfl) K27 (by rw [← S27 Q a0 a1 a2 h] at c;exact c)
noncomputable def B30:Code:=(Try.f30.body).getD .skip
def R30:List ResultVar:=[.tmp 4]
abbrev N30:Nat:=25
def K30:KT:=(.seq .leaf (.join (.seq .leaf (.two (.seq .leaf .leaf [4]) .leaf) [0,3,6]) (.join (.seq .leaf (.two (.seq .leaf .leaf [4]) .leaf) [0,3,8]) (.seq .leaf .leaf [4]) [0,3]) [0,3]) [0,3])
def Jz3r (Q:AEnd→AH→Prop) (x0 x3:V) (h:AH):Prop:=vcAt Pg N30 B30 K30 [1,1,1] [] (vcRet Pg R30 Q) [(0,x0),(3,x3)] h
def Jz3q (Q:AEnd→AH→Prop) (x0 x3:V) (h:AH):Prop:=vcAt Pg N30 B30 K30 [1,1] [] (vcRet Pg R30 Q) [(0,x0),(3,x3)] h
theorem Jz3r_eq (Q:AEnd→AH→Prop) (x0 x3:V) (h:AH):Jz3r Q x0 x3 h=(
 bindO (fstV (still (aFieldAddr Pg 29 x3 1) h)) fun v16 =>
 bindO (fstV (aLoadV Pg h 27 v16)) fun v17 =>
 bindO (fstV (still (aConv Pg h 27 3 v17) h)) fun v18 =>
 bindO (fstV (aNil x0 h)) fun v19 =>
 bindO (fstV (still (aFieldAddr Pg 99 v19 3) h)) fun v20 =>
 bindO (fstV (aLoadV Pg h 3 v20)) fun v21 =>
 bindO (fstV (still (aBin Pg .lss 3 v18 v21 false) h)) fun v22 =>
 Q (.ret v22) h):=by kernel_rfl
theorem Jz3q_eq (Q:AEnd→AH→Prop) (x0 x3:V) (h:AH):Jz3q Q x0 x3 h=(
 bindV (still (aFieldAddr Pg 29 x3 0) h) fun v5 h6 =>
 bindV (aLoadV Pg h6 4 v5) fun v7 h8 =>
 vcIf v7 (
 bindO (fstV (still (aFieldAddr Pg 29 x3 1) h8)) fun v9 =>
 bindO (fstV (aLoadV Pg h8 27 v9)) fun v10 =>
 bindO (fstV (still (aConv Pg h8 27 3 v10) h8)) fun v11 =>
 bindO (fstV (aNil x0 h8)) fun v12 =>
 bindO (fstV (still (aFieldAddr Pg 99 v12 4) h8)) fun v13 =>
 bindO (fstV (aLoadV Pg h8 3 v13)) fun v14 =>
 bindO (fstV (still (aBin Pg .lss 3 v11 v14 false) h8)) fun v15 =>
 Q (.ret v15) h8) (
 Meet (Jz3r Q x0 x3 h8))):=by kernel_rfl
theorem S30 (Q:AEnd→AH→Prop) (a0 a1:V) (h:AH):vc Pg N30 B30 K30 (vcRet Pg R30 Q) (initEnv 0 [a0,a1]) h=(
 bindV (aNew Pg h 29 a1) fun v1 h2 =>
 bindV (still (aBin Pg .eql 47 a0 (V.ptr none) true) h2) fun v3 h4 =>
 vcIf v3 (
 Q (.ret (V.bool false)) h4) (
 Meet (Jz3q Q a0 v1 h4))):=by kernel_rfl
theorem C30 (Q:AEnd→AH→Prop) (a0 a1:V) (h:AH) (c :
 bindV (aNew Pg h 29 a1) fun v1 h2 =>
 bindV (still (aBin Pg .eql 47 a0 (V.ptr none) true) h2) fun v3 h4 =>
 vcIf v3 (
 Q (.ret (V.bool false)) h4) (
 Meet (Jz3q Q a0 v1 h4))):ACalls Pg 30 [a0,a1] h Q :=
 acalls_of_vc okP Try.func30 (show Try.f30.body=some B30 from by kernel_rfl) K30 (by rw [← S30 Q a0 a1 h] at c;exact c)
noncomputable def B31:Code:=(Try.f31.body).getD .skip
def R31:List ResultVar:=[.tmp 4,.tmp 5]
abbrev N31:Nat:=28
def K31:KT:=(.seq .leaf (.join (.seq .leaf (.two (.seq .leaf .leaf [4,5]) .leaf) [0,3,9]) (.seq .leaf (.join (.seq .leaf (.two (.seq .leaf .leaf [4,5]) .leaf) [0,6,20]) (.seq .leaf .leaf [4,5]) [0,6]) [0,6,7]) [0,3]) [0,3])
def Jz3t (Q:AEnd→AH→Prop) (x0 x6:V) (h:AH):Prop:=vcAt Pg N31 B31 K31 [1,1,1,1] [] (vcRet Pg R31 Q) [(0,x0),(6,x6)] h
def Jz3s (Q:AEnd→AH→Prop) (x0 x3:V) (h:AH):Prop:=vcAt Pg N31 B31 K31 [1,1] [] (vcRet Pg R31 Q) [(0,x0),(3,x3)] h
theorem Jz3t_eq (Q:AEnd→AH→Prop) (x0 x6:V) (h:AH):Jz3t Q x0 x6 h=(
 bindV (aNil x0 h) fun v14 h15 =>
 bindV (still (aFieldAddr Pg 99 v14 5) h15) fun v16 h17 =>
 bindV (aLoadV Pg h17 96 v16) fun v18 h19 =>
 bindV (still (aIndexAddr Pg 96 v18 x6) h19) fun v20 h21 =>
 Q (.ret (V.tup [v20,x6])) h21):=by kernel_rfl
theorem Jz3s_eq (Q:AEnd→AH→Prop) (x0 x3:V) (h:AH):Jz3s Q x0 x3 h=(
 bindO (fstV (aNil x0 h)) fun v5 =>
 bindO (fstV (still (aFieldAddr Pg 99 v5 7) h)) fun v6 =>
 bindO (fstV (aLoadV Pg h 97 v6)) fun v7 =>
 bindO (fstV (aLoadV Pg h 29 x3)) fun v8 =>
 bindO (fstV (still (aLookup Pg h 97 v7 v8 true) h)) fun v9 =>
 bindO (fstV (still (aExtract v9 0) h)) fun v10 =>
 bindO (fstV (still (aExtract v9 1) h)) fun v11 =>
 bindV (still (aUn .not v11) h) fun v12 h13 =>
 vcIf v12 (
 Q (.ret (V.tup [(V.ptr none),(V.int .i64 0)])) h13) (
 Meet (Jz3t Q x0 v10 h13))):=by kernel_rfl
theorem S31 (Q:AEnd→AH→Prop) (a0 a1:V) (h:AH):vc Pg N31 B31 K31 (vcRet Pg R31 Q) (initEnv 0 [a0,a1]) h=(
 bindV (aNew Pg h 29 a1) fun v1 h2 =>
 bindV (still (aBin Pg .eql 47 a0 (V.ptr none) true) h2) fun v3 h4 =>
 vcIf v3 (
 Q (.ret (V.tup [(V.ptr none),(V.int .i64 0)])) h4) (
 Meet (Jz3s Q a0 v1 h4))):=by kernel_rfl
theorem C31 (Q:AEnd→AH→Prop) (a0 a1:V) (h:AH) (c :
 bindV (aNew Pg h 29 a1) fun v1 h2 =>
 bindV (still (aBin Pg .eql 47 a0 (V.ptr none) true) h2) fun v3 h4 =>
 vcIf v3 (
 Q (.ret (V.tup [(V.ptr none),(V.int .i64 0)])) h4) (
 Meet (Jz3s Q a0 v1 h4))):ACalls Pg 31 [a0,a1] h Q :=
 acalls_of_vc okP Try.func31 (show Try.f31.body=some B31 from by kernel_rfl) K31 (by rw [← S31 Q a0 a1 h] at c;exact c)
noncomputable def B37:Code:=(Try.f37.body).getD .skip
def R37:List ResultVar:=[.tmp 4]
abbrev N37:Nat:=17
def K37:KT:=(.seq .leaf (.join (.seq .leaf (.two (.seq .leaf .leaf [4]) .leaf) [0,3,6]) (.seq .leaf .leaf [4]) [3]) [0,3])
def Jz3z (Q:AEnd→AH→Prop) (x3:V) (h:AH):Prop:=vcAt Pg N37 B37 K37 [1,1] [] (vcRet Pg R37 Q) [(3,x3)] h
theorem Jz3z_eq (Q:AEnd→AH→Prop) (x3:V) (h:AH):Jz3z Q x3 h=(
 bindV (still (aFieldAddr Pg 29 x3 1) h) fun v17 h18 =>
 bindV (aLoadV Pg h18 27 v17) fun v19 h20 =>
 bindV (still (aConv Pg h20 27 3 v19) h20) fun v21 h22 =>
 bindV (still (aBin Pg .add 3 (V.int .i64 2) v21 true) h22) fun v23 h24 =>
 Q (.ret v23) h24):=by kernel_rfl
theorem S37 (Q:AEnd→AH→Prop) (a0 a1:V) (h:AH):vc Pg N37 B37 K37 (vcRet Pg R37 Q) (initEnv 0 [a0,a1]) h=(
 bindV (aNew Pg h 29 a1) fun v1 h2 =>
 bindV (still (aFieldAddr Pg 29 v1 0) h2) fun v3 h4 =>
 bindV (aLoadV Pg h4 4 v3) fun v5 h6 =>
 vcIf v5 (
 bindV (still (aBin Pg .add 3 (V.int .i64 2) a0 true) h6) fun v7 h8 =>
 bindV (still (aFieldAddr Pg 29 v1 1) h8) fun v9 h10 =>
 bindV (aLoadV Pg h10 27 v9) fun v11 h12 =>
 bindV (still (aConv Pg h12 27 3 v11) h12) fun v13 h14 =>
 bindV (still (aBin Pg .add 3 v7 v13 false) h14) fun v15 h16 =>
 Q (.ret v15) h16) (
 Meet (Jz3z Q v1 h6))):=by kernel_rfl
theorem C37 (Q:AEnd→AH→Prop) (a0 a1:V) (h:AH) (c :
 bindV (aNew Pg h 29 a1) fun v1 h2 =>
 bindV (still (aFieldAddr Pg 29 v1 0) h2) fun v3 h4 =>
 bindV (aLoadV Pg h4 4 v3) fun v5 h6 =>
 vcIf v5 (
 bindV (still (aBin Pg .add 3 (V.int .i64 2) a0 true) h6) fun v7 h8 =>
 bindV (still (aFieldAddr Pg 29 v1 1) h8) fun v9 h10 =>
 bindV (aLoadV Pg h10 27 v9) fun v11 h12 =>
 bindV (still (aConv Pg h12 27 3 v11) h12) fun v13 h14 =>
 bindV (still (aBin Pg .add 3 v7 v13 false) h14) fun v15 h16 =>
 Q (.ret v15) h16) (
 Meet (Jz3z Q v1 h6))):ACalls Pg 37 [a0,a1] h Q :=
 acalls_of_vc okP Try.func37 (show Try.f37.body=some B37 from by kernel_rfl) K37 (by rw [← S37 Q a0 a1 h] at c;exact c)
noncomputable def B48:Code:=(Try.f48.body).getD .skip
def R48:List ResultVar:=[.tmp 10]
abbrev N48:Nat:=61
def K48:KT:=(.seq .leaf (.join (.join (.reg [[0,1,2,3,4,13,15],[0,1,2,3,4,17,19],[0,1,2,3,4,21,23],[0,1,2,3,4,25,27],[0,1,2,3,4,29,31],[0,1,2,3,4,33,35],[0,1,2,3,4,37,39],[0,1,2,3,4,41,48]]) (.two (.seq .leaf .leaf [10]) .leaf) [0,1,2,3,4,49]) (.seq .leaf .leaf [10]) [0,1,2,3,4]) [0,1,2,3,4])
def Jz5b (Q:AEnd→AH→Prop) (x0 x1 x2 x3 x4:V) (h:AH):Prop:=vcAt Pg N48 B48 K48 [1,1] [] (vcRet Pg R48 Q) [(0,x0),(1,x1),(2,x2),(3,x3),(4,x4)] h
def Jz5a (Q:AEnd→AH→Prop) (x0 x1 x2 x3 x4 x49:V) (h:AH):Prop:=vcAt Pg N48 B48 K48 [1,0,1] [] (vcRet Pg R48 Q) [(0,x0),(1,x1),(2,x2),(3,x3),(4,x4),(49,x49)] h
def Gz19 (Q:AEnd→AH→Prop) (x0 x1 x2 x3 x4 x41 x48:V) (h:AH):Prop:=segAt Pg N48 B48 K48 [1,0,0] 16 8 [] (vcRet Pg R48 Q) [(0,x0),(1,x1),(2,x2),(3,x3),(4,x4),(41,x41),(48,x48)] h
def Gz18 (Q:AEnd→AH→Prop) (x0 x1 x2 x3 x4 x37 x39:V) (h:AH):Prop:=segAt Pg N48 B48 K48 [1,0,0] 14 7 [] (vcRet Pg R48 Q) [(0,x0),(1,x1),(2,x2),(3,x3),(4,x4),(37,x37),(39,x39)] h
def Gz17 (Q:AEnd→AH→Prop) (x0 x1 x2 x3 x4 x33 x35:V) (h:AH):Prop:=segAt Pg N48 B48 K48 [1,0,0] 12 6 [] (vcRet Pg R48 Q) [(0,x0),(1,x1),(2,x2),(3,x3),(4,x4),(33,x33),(35,x35)] h
def Gz16 (Q:AEnd→AH→Prop) (x0 x1 x2 x3 x4 x29 x31:V) (h:AH):Prop:=segAt Pg N48 B48 K48 [1,0,0] 10 5 [] (vcRet Pg R48 Q) [(0,x0),(1,x1),(2,x2),(3,x3),(4,x4),(29,x29),(31,x31)] h
def Gz15 (Q:AEnd→AH→Prop) (x0 x1 x2 x3 x4 x25 x27:V) (h:AH):Prop:=segAt Pg N48 B48 K48 [1,0,0] 8 4 [] (vcRet Pg R48 Q) [(0,x0),(1,x1),(2,x2),(3,x3),(4,x4),(25,x25),(27,x27)] h
def Gz14 (Q:AEnd→AH→Prop) (x0 x1 x2 x3 x4 x21 x23:V) (h:AH):Prop:=segAt Pg N48 B48 K48 [1,0,0] 6 3 [] (vcRet Pg R48 Q) [(0,x0),(1,x1),(2,x2),(3,x3),(4,x4),(21,x21),(23,x23)] h
def Gz13 (Q:AEnd→AH→Prop) (x0 x1 x2 x3 x4 x17 x19:V) (h:AH):Prop:=segAt Pg N48 B48 K48 [1,0,0] 4 2 [] (vcRet Pg R48 Q) [(0,x0),(1,x1),(2,x2),(3,x3),(4,x4),(17,x17),(19,x19)] h
def Gz12 (Q:AEnd→AH→Prop) (x0 x1 x2 x3 x4 x13 x15:V) (h:AH):Prop:=segAt Pg N48 B48 K48 [1,0,0] 2 1 [] (vcRet Pg R48 Q) [(0,x0),(1,x1),(2,x2),(3,x3),(4,x4),(13,x13),(15,x15)] h
theorem Jz5b_eq (Q:AEnd→AH→Prop) (x0 x1 x2 x3 x4:V) (h:AH):Jz5b Q x0 x1 x2 x3 x4 h=(
 bindV (still (aIface Pg 43 x1) h) fun v19 h20 =>
 ACalls Pg 72 [x2] h20 (aEnd (fun v21 h22 =>
 bindV (aMakeMap Pg h22 97) fun v23 h24 =>
 bindV (still (aBuild Pg 99 [(0,x0),(1,v19),(2,v21),(3,x3),(4,x4),(6,x2),(7,v23)]) h24) fun v25 h26 =>
 bindV (aNew Pg h26 99 v25) fun v27 h28 =>
 Q (.ret v27) h28) fun v h=>Q (.panic v) h)):=by kernel_rfl
theorem Jz5a_eq (Q:AEnd→AH→Prop) (x0 x1 x2 x3 x4 x49:V) (h:AH):Jz5a Q x0 x1 x2 x3 x4 x49 h=(
 vcIf x49 (
 Q (.ret (V.ptr none)) h) (
 Meet (Jz5b Q x0 x1 x2 x3 x4 h))):=by kernel_rfl
theorem Gz19_eq (Q:AEnd→AH→Prop) (x0 x1 x2 x3 x4 x41 x48:V) (h:AH):Gz19 Q x0 x1 x2 x3 x4 x41 x48 h=(
 bindV (aPick x41 (V.bool true) x48 h) fun v17 h18 =>
 Meet (Jz5a Q x0 x1 x2 x3 x4 v17 h18)):=by kernel_rfl
theorem Gz18_eq (Q:AEnd→AH→Prop) (x0 x1 x2 x3 x4 x37 x39:V) (h:AH):Gz18 Q x0 x1 x2 x3 x4 x37 x39 h=(
 bindV (aPick x37 (V.bool true) x39 h) fun v15 h16 =>
 vcG v15 false (
 bindV (still (aBin Pg .add 3 (V.int .i64 2) x3 true) h16) fun v29 h30 =>
 bindV (still (aBin Pg .add 3 v29 x4 false) h30) fun v31 h32 =>
 ACalls Pg 71 [x0] h32 (aEnd (fun v33 h34 =>
 bindV (still (aBin Pg .gtr 3 v31 v33 false) h34) fun v35 h36 =>
 Meet (Gz19 Q x0 x1 x2 x3 x4 v15 v35 h36)) fun v h=>Q (.panic v) h)) (Meet (Gz19 Q x0 x1 x2 x3 x4 v15 hole h16))):=by kernel_rfl
theorem Gz17_eq (Q:AEnd→AH→Prop) (x0 x1 x2 x3 x4 x33 x35:V) (h:AH):Gz17 Q x0 x1 x2 x3 x4 x33 x35 h=(
 bindV (aPick x33 (V.bool true) x35 h) fun v13 h14 =>
 vcG v13 false (
 bindV (still (aBin Pg .gtr 3 x4 (V.int .i64 32) true) h14) fun v37 h38 =>
 Meet (Gz18 Q x0 x1 x2 x3 x4 v13 v37 h38)) (Meet (Gz18 Q x0 x1 x2 x3 x4 v13 hole h14))):=by kernel_rfl
theorem Gz16_eq (Q:AEnd→AH→Prop) (x0 x1 x2 x3 x4 x29 x31:V) (h:AH):Gz16 Q x0 x1 x2 x3 x4 x29 x31 h=(
 bindV (aPick x29 (V.bool true) x31 h) fun v11 h12 =>
 vcG v11 false (
 bindV (still (aBin Pg .lss 3 x4 (V.int .i64 1) true) h12) fun v39 h40 =>
 Meet (Gz17 Q x0 x1 x2 x3 x4 v11 v39 h40)) (Meet (Gz17 Q x0 x1 x2 x3 x4 v11 hole h12))):=by kernel_rfl
theorem Gz15_eq (Q:AEnd→AH→Prop) (x0 x1 x2 x3 x4 x25 x27:V) (h:AH):Gz15 Q x0 x1 x2 x3 x4 x25 x27 h=(
 bindV (aPick x25 (V.bool true) x27 h) fun v9 h10 =>
 vcG v9 false (
 bindV (still (aBin Pg .gtr 3 x3 (V.int .i64 16) true) h10) fun v41 h42 =>
 Meet (Gz16 Q x0 x1 x2 x3 x4 v9 v41 h42)) (Meet (Gz16 Q x0 x1 x2 x3 x4 v9 hole h10))):=by kernel_rfl
theorem Gz14_eq (Q:AEnd→AH→Prop) (x0 x1 x2 x3 x4 x21 x23:V) (h:AH):Gz14 Q x0 x1 x2 x3 x4 x21 x23 h=(
 bindV (aPick x21 (V.bool true) x23 h) fun v7 h8 =>
 vcG v7 false (
 bindV (still (aBin Pg .lss 3 x3 (V.int .i64 1) true) h8) fun v43 h44 =>
 Meet (Gz15 Q x0 x1 x2 x3 x4 v7 v43 h44)) (Meet (Gz15 Q x0 x1 x2 x3 x4 v7 hole h8))):=by kernel_rfl
theorem Gz13_eq (Q:AEnd→AH→Prop) (x0 x1 x2 x3 x4 x17 x19:V) (h:AH):Gz13 Q x0 x1 x2 x3 x4 x17 x19 h=(
 bindV (aPick x17 (V.bool true) x19 h) fun v5 h6 =>
 vcG v5 false (
 bindV (still (aBin Pg .gtr 3 x2 (V.int .i64 32) true) h6) fun v45 h46 =>
 Meet (Gz14 Q x0 x1 x2 x3 x4 v5 v45 h46)) (Meet (Gz14 Q x0 x1 x2 x3 x4 v5 hole h6))):=by kernel_rfl
theorem Gz12_eq (Q:AEnd→AH→Prop) (x0 x1 x2 x3 x4 x13 x15:V) (h:AH):Gz12 Q x0 x1 x2 x3 x4 x13 x15 h=(
 bindV (aPick x13 (V.bool true) x15 h) fun v3 h4 =>
 vcG v3 false (
 bindV (still (aBin Pg .lss 3 x2 (V.int .i64 4) true) h4) fun v47 h48 =>
 Meet (Gz13 Q x0 x1 x2 x3 x4 v3 v47 h48)) (Meet (Gz13 Q x0 x1 x2 x3 x4 v3 hole h4))):=by kernel_rfl
theorem S48 (Q:AEnd→AH→Prop) (a0 a1 a2 a3 a4:V) (h:AH):vc Pg N48 B48 K48 (vcRet Pg R48 Q) (initEnv 0 [a0,a1,a2,a3,a4]) h=(
 bindV (still (aBin Pg .eql 23 a0 (V.ptr none) true) h) fun v1 h2 =>
 vcG v1 false (
 bindV (still (aBin Pg .eql 43 a1 (V.ptr none) true) h2) fun v49 h50 =>
 Meet (Gz12 Q a0 a1 a2 a3 a4 v1 v49 h50)) (Meet (Gz12 Q a0 a1 a2 a3 a4 v1 hole h2))):=by kernel_rfl
theorem C48 (Q:AEnd→AH→Prop) (a0 a1 a2 a3 a4:V) (h:AH) (c :
 bindV (still (aBin Pg .eql 23 a0 (V.ptr none) true) h) fun v1 h2 =>
 vcG v1 false (
 bindV (still (aBin Pg .eql 43 a1 (V.ptr none) true) h2) fun v49 h50 =>
 Meet (Gz12 Q a0 a1 a2 a3 a4 v1 v49 h50)) (Meet (Gz12 Q a0 a1 a2 a3 a4 v1 hole h2))):ACalls Pg 48 [a0,a1,a2,a3,a4] h Q :=
 acalls_of_vc okP Try.func48 (show Try.f48.body=some B48 from by kernel_rfl) K48 (by rw [← S48 Q a0 a1 a2 a3 a4 h] at c;exact c)
end Go.Proofs.Ytdfgfbammkojoaa.Sh
namespace Go.Ab
open Go Go.RowKit
variable {P:Program}
def apOk (P:Program) (t xt e:TypeId):Bool :=
 (match ul P t with
 | some (.slice e')=>e' == e
 | _=>false) && notInt P xt && (ul P e).isSome && decide (1≤P.bytesOf e) && (zeroV P e).isSome
theorem apOk_spec {t xt e:TypeId} (h:apOk P t xt e=true):ul P t=some (.slice e)∧(notInt P xt && (ul P e).isSome)=true∧1≤P.bytesOf e∧(zeroV P e).isSome=true:=by
 simp only [apOk,Bool.and_eq_true,decide_eq_true_eq] at h
 obtain ⟨⟨⟨⟨h1,h2⟩,h3⟩,h4⟩,h5⟩:=h
 split at h1
 · rename_i e' hu
   simp only [beq_iff_eq] at h1;subst h1
   exact ⟨hu,by rw [h2,h3];rfl,h4,h5⟩
 · cases h1
theorem appN {h:AH} {t xt e:TypeId} {x:V} {ws:List V} {n:Nat} (hc:apOk P t xt e=true) (he:aElems P h e x=some ws) (hw:ws≠[]) (hl:ws.length * P.bytesOf e≤140737488355328) :
   aBuiltin P h .append [t,xt] [.slc none n,x]=some (.slc (some (⟨h.next,.row e,[]⟩,0)) ws.length,h.make (.cells true (.row e) (.agg ws))):=by
 obtain ⟨h1,h2,h3,h4⟩:=apOk_spec hc
 simp only [aBuiltin,h1]
 rw [if_pos h2]
 unfold aAppend
 rw [he]
 cases ws with
 | nil=>exact absurd rfl hw
 | cons w ws =>
   simp only [aOwnRow,List.length_nil,Nat.zero_add]
   rw [if_pos ⟨h3,hl,h4⟩]
   rfl
theorem appR {h:AH} {t xt e:TypeId} {x:V} {ws l:List V} {a i n:Nat} (hc:apOk P t xt e=true) (he:aElems P h e x=some ws) (hw:ws≠[]) (hm:h.m a=some (.cells true (.row e) (.agg l))) (hn:i + n≤l.length)
   (hl:(n + ws.length) * P.bytesOf e≤140737488355328) :
   aBuiltin P h .append [t,xt] [.slc (some (⟨a,.row e,[]⟩,i)) n,x]=some (.slc (some (⟨h.next,.row e,[]⟩,0)) (n + ws.length),(h.kill a).make (.cells true (.row e) (.agg ((l.drop i).take n++ws)))):=by
 obtain ⟨h1,h2,h3,h4⟩:=apOk_spec hc
 simp only [aBuiltin,h1]
 rw [if_pos h2]
 unfold aAppend
 rw [he]
 cases ws with
 | nil=>exact absurd rfl hw
 | cons w ws =>
   have hlen:((l.drop i).take n).length=n:=by simp;omega
   simp only [aOwnRow,hm,true_and]
   rw [if_pos hn]
   simp only [hlen]
   rw [if_pos ⟨h3,hl,h4⟩]
   rfl
def bsOk (P:Program) (t e:TypeId) (len:Nat):Bool :=
 (match ul P t with
 | some (.slice e')=>e' == e
 | _=>false) && decide (P.cellsOf e≠0∧len * P.cellsOf e≤16777216)
theorem bs_mk {h:AH} {t e:TypeId} {len:Nat} {ps:List (Nat × V)} {l:List V} {z:V} (hc:bsOk P t e len=true) (hz:zeroV P e=some z) (hp:putParts P (fun _=>some e) (List.replicate len z) ps=some l) :
   aBuildSlice P h t len ps=some (.slc (some (⟨h.next,.row e,[]⟩,0)) len,h.make (.cells true (.row e) (.agg l))):=by
 simp only [bsOk,Bool.and_eq_true,decide_eq_true_eq] at hc
 obtain ⟨h1,h2⟩:=hc
 split at h1
 · rename_i e' hu
   simp only [beq_iff_eq] at h1;subst h1
   unfold aBuildSlice
   rw [hu]
   simp only [hz]
   rw [if_pos h2,hp]
 · cases h1
theorem kill_m (h:AH) (k n:Nat):(h.kill k).m n=if n=k then none else h.m n:=rfl
theorem kill_next (h:AH) (k:Nat):(h.kill k).next=h.next:=rfl
end Go.Ab
namespace Go.Ab
open Go Go.RowKit
variable {P:Program}
structure Upd (h h':AH) (n:Nat) (o:AO):Prop where
 next:h'.next=h.next
 at_:h'.m n=some o
 other:∀ k,k≠n→h'.m k=h.m k
structure New (h h':AH) (o:AO):Prop where
 next:h'.next=h.next + 1
 at_:h'.m h.next=some o
 other:∀ k,k < h.next→h'.m k=h.m k
 above:∀ k,h.next < k→h'.m k=h.m k
structure Rep (h h':AH) (n:Nat) (o:AO):Prop where
 next:h'.next=h.next + 1
 at_:h'.m h.next=some o
 gone:h'.m n=none
 other:∀ k,k < h.next→k≠n→h'.m k=h.m k
 above:∀ k,h.next < k→h'.m k=none∨h'.m k=h.m k
theorem upd_put (h:AH) (n:Nat) (o:AO):Upd h (h.put n o) n o:=⟨rfl,by rw [put_m,if_pos rfl],fun k hk=>by rw [put_m,if_neg hk]⟩
theorem new_make (h:AH) (o:AO):New h (h.make o) o:=⟨rfl,by rw [make_m,if_pos rfl],fun k hk=>by rw [make_m,if_neg (by omega)],fun k hk=>by rw [make_m,if_neg (by omega)]⟩
theorem rep_make (h:AH) (n:Nat) (o:AO) (hn:n < h.next):Rep h ((h.kill n).make o) n o :=
 ⟨rfl,by rw [make_m,if_pos (by rw [kill_next])],by rw [make_m,if_neg (by rw [kill_next];omega),kill_m,if_pos rfl],fun k hk hne=>by rw [make_m,if_neg (by rw [kill_next];omega),kill_m,if_neg hne],fun k hk=>by
   rw [make_m,if_neg (by rw [kill_next];omega),kill_m]
   split
   · exact .inl rfl
   · exact .inr rfl⟩
theorem new_at {h:AH} {t:TypeId} {v:V} (hs:hasShape P v t=true):∃ h',aNew P h t v=some (.ptr (some ⟨h.next,.one t,[]⟩),h')∧New h h' (.cells true (.one t) v) :=
 ⟨_,new_mk hs,new_make _ _⟩
theorem al_at {h:AH} {t:TypeId} {z:V} (hz:zeroV P t=some z) (hs:hasShape P z t=true):∃ h',aAlloc P h t=some (.ptr (some ⟨h.next,.one t,[]⟩),h')∧New h h' (.cells true (.one t) z) :=
 ⟨_,al_mk hz hs,new_make _ _⟩
theorem st_at {h:AH} {n:Nat} {ty:BTy} {p:List Nat} {v v' w x:V} {t:TypeId} (hm:h.m n=some (.cells true ty v)) (hc:ldOk P ty p t=true) (hg:getV v p=some w) (hs:hasShape P x t=true) (hv:setV v p x=some v') :
   ∃ h',aStoreV P h t (.ptr (some ⟨n,ty,p⟩)) x=some (hole,h')∧Upd h h' n (.cells true ty v'):=⟨_,st_mk hm hc hg hs hv,upd_put _ _ _⟩
theorem bs_at {h:AH} {t e:TypeId} {len:Nat} {ps:List (Nat × V)} {l:List V} {z:V} (hc:bsOk P t e len=true) (hz:zeroV P e=some z) (hp:putParts P (fun _=>some e) (List.replicate len z) ps=some l) :
   ∃ h',aBuildSlice P h t len ps=some (.slc (some (⟨h.next,.row e,[]⟩,0)) len,h')∧New h h' (.cells true (.row e) (.agg l)):=⟨_,bs_mk hc hz hp,new_make _ _⟩
theorem apN_at {h:AH} {t xt e:TypeId} {x:V} {ws:List V} {n:Nat} (hc:apOk P t xt e=true) (he:aElems P h e x=some ws) (hw:ws≠[]) (hl:ws.length * P.bytesOf e≤140737488355328) :
   ∃ h',aBuiltin P h .append [t,xt] [.slc none n,x]=some (.slc (some (⟨h.next,.row e,[]⟩,0)) ws.length,h')∧New h h' (.cells true (.row e) (.agg ws)):=⟨_,appN hc he hw hl,new_make _ _⟩
theorem apR_at {h:AH} {t xt e:TypeId} {x:V} {ws l:List V} {a i n:Nat} (hc:apOk P t xt e=true) (ha:a < h.next) (hm:h.m a=some (.cells true (.row e) (.agg l))) (hn:i + n≤l.length) (he:aElems P h e x=some ws) (hw:ws≠[])
   (hl:(n + ws.length) * P.bytesOf e≤140737488355328) :
   ∃ h',aBuiltin P h .append [t,xt] [.slc (some (⟨a,.row e,[]⟩,i)) n,x]=some (.slc (some (⟨h.next,.row e,[]⟩,0)) (n + ws.length),h')∧Rep h h' a (.cells true (.row e) (.agg ((l.drop i).take n++ws))):=⟨_,appR hc he hw hm hn hl,rep_make _ _ _ ha⟩
theorem tbytes (l:List UInt8):toBytes (bytesV l)=some l:=by
 induction l with
 | nil=>rfl
 | cons b l ih =>
   have e:bytesV (b :: l)=.int .u8 b.toNat :: bytesV l:=rfl
   rw [e]
   simp only [toBytes,ih]
   simp
theorem cvBS {t d e:TypeId} {h:AH} {x:V} {l:List UInt8} (ht:bsT P t d e=true) (he:aElems P h e x=some (bytesV l)) (hx:(∃ n,x=.slc none n)∨∃ a n,x=.slc (some a) n):aConv P h t d x=some (.str l):=by
 unfold bsT at ht
 simp only [Bool.and_eq_true] at ht
 obtain ⟨⟨h1,h2⟩,h3⟩:=ht
 have hu:ul P t=some (.slice e):=by
   split at h1
   · rename_i e' hu;simp only [beq_iff_eq] at h1;subst h1;exact hu
   · cases h1
 have hd:ul P d=some .string:=by
   split at h2
   · assumption
   · cases h2
 have he':ul P e=some (.int .u8):=by
   split at h3
   · assumption
   · cases h3
 rcases hx with ⟨n,rfl⟩ | ⟨a,n,rfl⟩ <;> simp [aConv,aBytesStr,hu,hd,he',he,tbytes]
section
variable {t:TypeId} {k k':IntKind} {a b:Int} {c:Bool}
theorem w_add (h:k.wrap (a + b)=a + b):aBin P .add t (.int k a) (.int k b) c=some (.int k (a + b)):=by rw [b_add,h]
theorem w_sub (h:k.wrap (a - b)=a - b):aBin P .sub t (.int k a) (.int k b) c=some (.int k (a - b)):=by rw [b_sub,h]
theorem w_mul (h:k.wrap (a * b)=a * b):aBin P .mul t (.int k a) (.int k b) c=some (.int k (a * b)):=by rw [b_mul,h]
theorem w_quo (hb:0 < b) (ha:0≤a) (h:k.wrap (a / b)=a / b):aBin P .quo t (.int k a) (.int k b) c=some (.int k (a / b)):=by rw [b_quo (by omega),Int.tdiv_eq_ediv_of_nonneg ha,h]
theorem w_rem (hb:0 < b) (ha:0≤a):aBin P .rem t (.int k a) (.int k b) c=some (.int k (a % b)):=by rw [b_rem (by omega),Int.tmod_eq_emod_of_nonneg ha]
end
theorem wr_u8 {x:Int} (h1:0≤x) (h2:x < 256):IntKind.u8.wrap x=x:=Int.emod_eq_of_lt h1 h2
theorem wr_u16 {x:Int} (h1:0≤x) (h2:x < 65536):IntKind.u16.wrap x=x:=Int.emod_eq_of_lt h1 h2
theorem wr_u32 {x:Int} (h1:0≤x) (h2:x < 4294967296):IntKind.u32.wrap x=x:=Int.emod_eq_of_lt h1 h2
theorem wr_u64 {x:Int} (h1:0≤x) (h2:x < 18446744073709551616):IntKind.u64.wrap x=x:=Int.emod_eq_of_lt h1 h2
theorem cv_wr {h:AH} {s d:TypeId} {k0 k:IntKind} {n:Int} (hc:cvOk P s d k=true) (hw:k.wrap n=n):aConv P h s d (.int k0 n)=some (.int k n):=by rw [cv_int k hc,hw]
theorem len_slc {h:AH} {t:TypeId} {a:Option (PA × Nat)} {n:Nat} (hc:(match ul P t with | some (.slice _)=>true | _=>false)=true):aBuiltin P h .len [t] [.slc a n]=some (.int .i64 n,h):=by
 split at hc
 · rename_i e hu
   simp only [aBuiltin,hu,aLen,still_mk]
 · cases hc
theorem ixS {t:TypeId} {k:IntKind} {s:List UInt8} {i:Int} {b:UInt8} (hc:(match ul P t with | some .string=>true | _=>false)=true) (hi:0≤i) (hb:s[i.toNat]?=some b):aIndex P t (.str s) (.int k i)=some (.int .u8 b.toNat):=by
 split at hc
 · rename_i hu
   simp only [aIndex,hu,hi,if_true,hb]
 · cases hc
theorem sl_str {h:AH} {t:TypeId} {s:List UInt8} {lo hi:Option V} {l k:Nat} (hc:(match ul P t with | some .string=>true | _=>false)=true) (hl:bnd lo 0=some l) (hk:bnd hi s.length=some k) (h1:l≤k) (h2:k≤s.length) :
   aSlice P h t (.str s) lo hi=some (.str ((s.drop l).take (k - l))):=by
 split at hc
 · rename_i hu
   simp only [aSlice,hu,hl,hk]
   rw [if_pos ⟨h1,h2⟩]
 · cases hc
theorem bnd_i {k:IntKind} {i:Int} {d:Nat} (h:0≤i):bnd (some (.int k i)) d=some i.toNat:=by simp only [bnd,if_pos h]
def iaOk (P:Program) (t:TypeId) (ty:BTy) (p:List Nat) (n e:Nat):Bool :=
 (match ul P t with | some (.array n' e')=>n' == n && e' == e | _=>false) && (match Go.Ab.rowAt P ty p with | some (_,e')=>e' == e | none=>false) && (ul P e).isSome
theorem ia_arr {t:TypeId} {m:Nat} {ty:BTy} {p:List Nat} {k:IntKind} {i:Int} (n e:Nat) (hc:iaOk P t ty p n e=true) (h0:0≤i) (h1:i < (n:Int)) :
   aIndexAddr P t (.ptr (some ⟨m,ty,p⟩)) (.int k i)=some (.ptr (some ⟨m,ty,p++[i.toNat]⟩)):=by
 simp only [iaOk,Bool.and_eq_true] at hc
 obtain ⟨⟨h2,h3⟩,h4⟩:=hc
 split at h2
 · rename_i n' e' hu
   simp only [Bool.and_eq_true,beq_iff_eq] at h2
   obtain ⟨rfl,rfl⟩:=h2
   split at h3
   · rename_i o e2 hr
     simp only [beq_iff_eq] at h3;subst h3
     simp only [aIndexAddr,hu,hr]
     rw [if_pos (by simp [h4,h0,h1])]
   · cases h3
 · cases h2
def isOk (P:Program) (t:TypeId) (e:Nat):Bool:=(match ul P t with | some (.slice e')=>e' == e | _=>false) && (ul P e).isSome
theorem ia_slc {t:TypeId} {m s len:Nat} {k:IntKind} {i:Int} (e:Nat) (hc:isOk P t e=true) (h0:0≤i) (h1:i < (len:Int)) :
   aIndexAddr P t (.slc (some (⟨m,.row e,[]⟩,s)) len) (.int k i)=some (.ptr (some ⟨m,.row e,[s + i.toNat]⟩)):=by
 simp only [isOk,Bool.and_eq_true] at hc
 obtain ⟨h2,h4⟩:=hc
 split at h2
 · rename_i e' hu
   simp only [beq_iff_eq] at h2;subst h2
   have hr:Go.Ab.rowAt P (.row e') []=some (0,e'):=rfl
   simp only [aIndexAddr,hu,hr]
   rw [if_pos (by simp [h4,h0,h1])]
   rfl
 · cases h2
theorem getV_row {l:List V} {i:Nat} {w:V} (h:l[i]?=some w):getV (.agg l) [i]=some w:=by simp only [getV,h]
theorem callS {f:FuncId} {args:List V} {h:AH} {v:V} {K X:V→AH→Prop} (c:ACalls P f args h (pureE v h)) (k:K v h):ACalls P f args h (aEnd K X):=call_mk c k
theorem bindE {r:Option (V × AH)} {v:V} {K:V→AH→Prop} {R:AH→Prop} (e:∃ h',r=some (v,h')∧R h') (k:∀ h',R h'→K v h'):bindV r K:=by
 obtain ⟨h',rfl,hr⟩:=e;exact k h' hr
theorem bs1_at {h:AH} {t e:TypeId} {a z:V} (hc:bsOk P t e 1=true) (hz:zeroV P e=some z) (h1:hasShape P a e=true) :
   ∃ h',aBuildSlice P h t 1 [(0,a)]=some (.slc (some (⟨h.next,.row e,[]⟩,0)) 1,h')∧New h h' (.cells true (.row e) (.agg [a])) :=
 bs_at hc hz (by simp [putParts,List.replicate,h1])
def BufB (e:TypeId) (h:AH) (x:V) (l:List UInt8):Prop :=
 (x=.slc none 0∧l=[])∨∃ n,n < h.next∧x=.slc (some (⟨n,.row e,[]⟩,0)) l.length∧h.m n=some (.cells true (.row e) (.agg (bytesV l)))
theorem bytesV_len (l:List UInt8):(bytesV l).length=l.length:=by simp [bytesV]
theorem bytesV_app (a b:List UInt8):bytesV (a++b)=bytesV a++bytesV b:=by simp [bytesV]
theorem BufB.elems {e:TypeId} {h:AH} {x:V} {l:List UInt8} (b:BufB e h x l):aElems P h e x=some (bytesV l):=by
 rcases b with ⟨rfl,rfl⟩ | ⟨n,h1,rfl,h3⟩
 · rfl
 · rw [← bytesV_len l];exact elems_row h3
theorem BufB.shape {e:TypeId} {h:AH} {x:V} {l:List UInt8} (b:BufB e h x l):(∃ n,x=.slc none n)∨∃ a n,x=.slc (some a) n:=by
 rcases b with ⟨rfl,rfl⟩ | ⟨n,h1,rfl,h3⟩
 · exact .inl ⟨_,rfl⟩
 · exact .inr ⟨_,_,rfl⟩
theorem BufB.keep {e:TypeId} {h h':AH} {x:V} {l:List UInt8} (b:BufB e h x l) (hn:h.next≤h'.next) (hk:∀ k,k < h.next→h'.m k=h.m k):BufB e h' x l:=by
 rcases b with ⟨rfl,rfl⟩ | ⟨n,h1,rfl,h3⟩
 · exact .inl ⟨rfl,rfl⟩
 · exact .inr ⟨n,by omega,rfl,(hk n h1).trans h3⟩
theorem BufB.app {t xt e:TypeId} {h:AH} {x y:V} {l w:List UInt8} (b:BufB e h x l) (hc:apOk P t xt e=true) (hb:P.bytesOf e=1) (hy:aElems P h e y=some (bytesV w)) (hw:w≠[]) (hl:l.length + w.length≤140737488355328) :
   ∃ v h',aBuiltin P h .append [t,xt] [x,y]=some (v,h')∧BufB e h' v (l++w)∧h.next≤h'.next∧∀ k,k < h.next→(∀ len,x≠.slc (some (⟨k,.row e,[]⟩,0)) len)→h'.m k=h.m k:=by
 have hw':bytesV w≠[]:=by cases w <;> simp_all [bytesV]
 rcases b with ⟨rfl,rfl⟩ | ⟨n,h1,rfl,h3⟩
 · obtain ⟨h',e1,u⟩:=apN_at (n:=0) hc hy hw' (by rw [hb,bytesV_len];simp at hl;omega)
   refine ⟨_,h',e1,.inr ⟨h.next,by rw [u.next];omega,by rw [bytesV_len];rfl,by rw [u.at_];rfl⟩,by rw [u.next];omega,fun k hk _=>u.other k hk⟩
 · obtain ⟨h',e1,u⟩:=apR_at (i:=0) (n:=l.length) hc h1 h3 (by rw [bytesV_len];omega) hy hw' (by rw [hb,bytesV_len];omega)
   refine ⟨_,h',e1,.inr ⟨h.next,by rw [u.next];omega,by rw [bytesV_len,List.length_append],?_⟩,by rw [u.next];omega,fun k hk hne=>u.other k hk (fun e=>by subst e;exact hne _ rfl)⟩
   rw [u.at_,bytesV_app,List.drop_zero,List.take_of_length_le (by rw [bytesV_len];omega)]
theorem BufB.str {t d e:TypeId} {h:AH} {x:V} {l:List UInt8} (b:BufB e h x l) (ht:bsT P t d e=true):aConv P h t d x=some (.str l):=cvBS ht b.elems b.shape
def saOk (P:Program) (t:TypeId) (ty:BTy) (p:List Nat) (n e:Nat):Bool :=
 (match ul P t with | some (.array n' e')=>n' == n && e' == e | _=>false) && (match layB P ty p with | some (_,u)=>isArr P u n e | none=>false) && (ul P e).isSome
theorem sl_arr {h:AH} {m:Nat} {ty:BTy} {p:List Nat} {own:Bool} {v:V} {l:List V} {t:TypeId} {lo hi:Option V} {a b:Nat} (n e:Nat) (hm:h.m m=some (.cells own ty v)) (hc:saOk P t ty p n e=true) (hg:getV v p=some (.agg l))
   (hl:bnd lo 0=some a) (hk:bnd hi n=some b) (h1:a≤b) (h2:b≤n):aSlice P h t (.ptr (some ⟨m,ty,p⟩)) lo hi=some (.slc (some (⟨m,ty,p⟩,a)) (b - a)):=by
 simp only [saOk,Bool.and_eq_true] at hc
 obtain ⟨⟨g1,g2⟩,g3⟩:=hc
 split at g1
 · rename_i n' e' hu
   simp only [Bool.and_eq_true,beq_iff_eq] at g1
   obtain ⟨rfl,rfl⟩:=g1
   split at g2
   · rename_i o u hlay
     simp only [aSlice,hm,hu,hlay,hg,hl,hk]
     rw [if_pos ⟨trivial,h1,h2,g3,g2⟩]
   · cases g2
 · cases g1
def raOk (P:Program) (ty:BTy) (p:List Nat) (e:Nat):Bool:=match Go.Ab.rowAt P ty p with | some (_,e')=>e' == e | none=>false
theorem elems_arr {h:AH} {m:Nat} {ty:BTy} {p:List Nat} {own:Bool} {v:V} {l:List V} {e a k:Nat} (hm:h.m m=some (.cells own ty v)) (hc:raOk P ty p e=true) (hg:getV v p=some (.agg l)) (hk:a + k≤l.length) :
   aElems P h e (.slc (some (⟨m,ty,p⟩,a)) k)=some ((l.drop a).take k):=by
 unfold raOk at hc
 split at hc
 · rename_i o e' hr
   simp only [beq_iff_eq] at hc;subst hc
   simp only [aElems,hm,if_true,hr,hg]
   rw [if_pos ⟨trivial,hk⟩]
 · cases hc
theorem copy_at {h:AH} {t xt e:TypeId} {m:Nat} {ty:BTy} {p:List Nat} {v v' x:V} {l ws:List V} {s n:Nat} (ht:(match ul P t with | some (.slice e')=>e' == e | _=>false)=true) (he:(ul P e).isSome=true) (hc:raOk P ty p e=true)
   (hm:h.m m=some (.cells true ty v)) (hg:getV v p=some (.agg l)) (hx:aElems P h e x=some ws) (hn:s + n≤l.length) (hs:setV v p (.agg (l.take s++ws.take (min ws.length n)++l.drop (s + min ws.length n)))=some v') :
   ∃ h',aBuiltin P h .copy [t,xt] [.slc (some (⟨m,ty,p⟩,s)) n,x]=some (.int .i64 (min ws.length n:Nat),h')∧Upd h h' m (.cells true ty v'):=by
 refine ⟨_,?_,upd_put _ _ _⟩
 split at ht
 · rename_i e' hu
   simp only [beq_iff_eq] at ht;subst ht
   unfold raOk at hc
   split at hc
   · rename_i o e2 hr
     simp only [beq_iff_eq] at hc;subst hc
     simp only [aBuiltin,hu]
     rw [if_pos he]
     unfold aCopy
     simp only [hx,hm,hr,hg]
     rw [if_pos ⟨trivial,trivial,hn⟩]
     simp only [hs]
   · cases hc
 · cases ht
theorem bytesV_take (l:List UInt8) (n:Nat):(bytesV l).take n=bytesV (l.take n):=by simp [bytesV,List.map_take]
theorem bytesV_drop (l:List UInt8) (n:Nat):(bytesV l).drop n=bytesV (l.drop n):=by simp [bytesV,List.map_drop]
theorem ne_of_bne {α:Type} [BEq α] [LawfulBEq α] {a b:α} (h:(a != b)=true):a≠b:=bne_iff_ne.1 h
theorem eq_of_bne_false {α:Type} [BEq α] [LawfulBEq α] {a b:α} (h:(a != b)=false):a=b:=by simpa using h
theorem flat_bytes:∀ l:List UInt8,flatBs (bytesV l)=true
 | []=>rfl
 | b :: l=>by
   have e:bytesV (b :: l)=.int .u8 b.toNat :: bytesV l:=rfl
   rw [e];simp only [flatBs,flatB,flat_bytes l,Bool.and_self]
theorem beq_bytes:∀ (a b:List UInt8),a.length=b.length→beqVs (bytesV a) (bytesV b)=some (a == b)
 | [],[],_=>rfl
 | [],_ :: _,h=>by simp at h
 | _ :: _,[],h=>by simp at h
 | x :: a,y :: b,h=>by
   have e1:bytesV (x :: a)=.int .u8 x.toNat :: bytesV a:=rfl
   have e2:bytesV (y :: b)=.int .u8 y.toNat :: bytesV b:=rfl
   rw [e1,e2]
   simp only [beqVs,beqV,if_true]
   have ih:=beq_bytes a b (by simpa using h)
   by_cases hxy:x=y
   · subst hxy
     simp [ih]
   · have:((x.toNat:Int) == (y.toNat:Int))=false:=by
       rw [beq_eq_false_iff_ne];intro e;exact hxy (UInt8.toNat_inj.1 (by omega))
     rw [this]
     have h2:((x :: a) == (y :: b))=false:=by rw [beq_eq_false_iff_ne];intro e;cases e;exact hxy rfl
     rw [h2]
end Go.Ab
namespace Go.Ab
open Go Go.RowKit
variable {P:Program}
def AO.tag:AO→Nat × Nat × Nat
 | .cells _ (.one t) _=>(0,t,0)
 | .cells _ (.row e) _=>(1,e,0)
 | .mp kt et _=>(2,kt,et)
 | .mps kt et _ _ _=>(3,kt,et)
 | .sit _ _=>(4,0,0)
 | .mit _ _ _ _=>(5,0,0)
abbrev Tags:=List (Nat × Nat × Nat)
def OwnAll (h:AH):Prop:=∀ n o,h.m n=some o→o.isOwn=true
structure Keeps (T:Tags) (h h':AH):Prop where
 next:h.next≤h'.next
 keep:∀ n o,n < h.next→h.m n=some o→o.tag ∉ T→h'.m n=some o
 none_:∀ n,n < h.next→h.m n=none→h'.m n=none
 tag:∀ n o,n < h.next→h.m n=some o→(∃ o',h'.m n=some o'∧o'.tag=o.tag)∨h'.m n=none
 own:OwnAll h→OwnAll h'
theorem Keeps.refl (T:Tags) (h:AH):Keeps T h h:=⟨Nat.le_refl _,fun n o _ k _=>k,fun n _ k=>k,fun n o _ k=>.inl ⟨o,k,rfl⟩,fun q=>q⟩
theorem Keeps.trans {T:Tags} {h h1 h2:AH} (a:Keeps T h h1) (b:Keeps T h1 h2):Keeps T h h2:=by
 refine ⟨Nat.le_trans a.next b.next,fun n o hn hm ht=>b.keep n o (Nat.lt_of_lt_of_le hn a.next) (a.keep n o hn hm ht) ht,fun n hn hm=>b.none_ n (Nat.lt_of_lt_of_le hn a.next) (a.none_ n hn hm),fun n o hn hm=>?_,fun q=>b.own (a.own q)⟩
 rcases a.tag n o hn hm with ⟨o1,m1,t1⟩ | m1
 · rcases b.tag n o1 (Nat.lt_of_lt_of_le hn a.next) m1 with ⟨o2,m2,t2⟩ | m2
   · exact .inl ⟨o2,m2,t2.trans t1⟩
   · exact .inr m2
 · exact .inr (b.none_ n (Nat.lt_of_lt_of_le hn a.next) m1)
theorem Keeps.mono {T T':Tags} {h h':AH} (a:Keeps T h h') (hT:∀ t∈T,t∈T'):Keeps T' h h':=⟨a.next,fun n o hn hm ht=>a.keep n o hn hm fun q=>ht (hT _ q),a.none_,a.tag,a.own⟩
theorem Keeps.sub {T T':Tags} {h h':AH} (a:Keeps T h h') (hT:(T.all fun t=>T'.contains t)=true):Keeps T' h h':=a.mono fun t ht=>by
 have:=List.all_eq_true.1 hT t ht
 simpa using this
theorem New.mem {h h':AH} {o:AO} (u:New h h' o) {n:Nat} {o':AO} (hm:h'.m n=some o'):h.m n=some o'∨o'=o:=by
 by_cases e:n=h.next
 · subst e;rw [u.at_] at hm;cases hm;exact .inr rfl
 · rcases Nat.lt_or_ge n h.next with k | k
   · exact .inl ((u.other n k).symm.trans hm)
   · exact .inl ((u.above n (by omega)).symm.trans hm)
theorem Keeps.new {T:Tags} {h h':AH} {o:AO} (u:New h h' o) (ho:o.isOwn=true:=by rfl):Keeps T h h':=by
 refine ⟨by have:=u.next;omega,fun n o hn hm _=>(u.other n hn).trans hm,fun n hn hm=>(u.other n hn).trans hm,fun n o hn hm=>.inl ⟨o,(u.other n hn).trans hm,rfl⟩,fun q n o' hm=>?_⟩
 rcases u.mem hm with k | rfl
 · exact q n o' k
 · exact ho
theorem Keeps.upd {T:Tags} {h h':AH} {n:Nat} {o o0:AO} (u:Upd h h' n o) (hm:h.m n=some o0) (ht:o.tag=o0.tag) (hT:T.contains o0.tag=true) (ho:o.isOwn=true:=by rfl):Keeps T h h':=by
 replace hT:o0.tag∈T:=by simpa using hT
 refine ⟨by have:=u.next;omega,fun k o1 hk hm1 ht1=>?_,fun k hk hm1=>?_,fun k o1 hk hm1=>?_,fun q k o' hk=>?_⟩
 · have hne:k≠n:=fun e=>by subst e;rw [hm] at hm1;cases hm1;exact ht1 hT
   exact (u.other k hne).trans hm1
 · have hne:k≠n:=fun e=>by subst e;rw [hm] at hm1;cases hm1
   exact (u.other k hne).trans hm1
 · by_cases e:k=n
   · subst e;rw [hm] at hm1;cases hm1;exact .inl ⟨o,u.at_,ht⟩
   · exact .inl ⟨o1,(u.other k e).trans hm1,rfl⟩
 · by_cases e:k=n
   · subst e;rw [u.at_] at hk;cases hk;exact ho
   · rw [u.other k e] at hk;exact q k o' hk
theorem Keeps.rep {T:Tags} {h h':AH} {n:Nat} {o o0:AO} (u:Rep h h' n o) (hm:h.m n=some o0) (hT:T.contains o0.tag=true) (ho:o.isOwn=true:=by rfl):Keeps T h h':=by
 replace hT:o0.tag∈T:=by simpa using hT
 refine ⟨by have:=u.next;omega,fun k o1 hk hm1 ht1=>?_,fun k hk hm1=>?_,fun k o1 hk hm1=>?_,fun q k o' hk=>?_⟩
 · have hne:k≠n:=fun e=>by subst e;rw [hm] at hm1;cases hm1;exact ht1 hT
   exact (u.other k hk hne).trans hm1
 · have hne:k≠n:=fun e=>by subst e;rw [hm] at hm1;cases hm1
   exact (u.other k hk hne).trans hm1
 · by_cases e:k=n
   · subst e;exact .inr u.gone
   · exact .inl ⟨o1,(u.other k hk e).trans hm1,rfl⟩
 · rcases Nat.lt_trichotomy k h.next with c | c | c
   · by_cases e:k=n
     · subst e;rw [u.gone] at hk;cases hk
     · rw [u.other k c e] at hk;exact q k o' hk
   · subst c;rw [u.at_] at hk;cases hk;exact ho
   · rcases u.above k c with e | e
     · rw [e] at hk;cases hk
     · rw [e] at hk;exact q k o' hk
theorem Keeps.young {T:Tags} {h h1 h2:AH} {n:Nat} {o:AO} (a:Keeps T h h1) (u:Upd h1 h2 n o) (hn:h.next≤n) (ho:o.isOwn=true:=by rfl):Keeps T h h2:=by
 refine ⟨by have:=a.next;have:=u.next;omega,fun k o1 hk hm ht=>(u.other k (by omega)).trans (a.keep k o1 hk hm ht),fun k hk hm=>(u.other k (by omega)).trans (a.none_ k hk hm),fun k o1 hk hm=>?_,fun q k o' hk=>?_⟩
 rotate_left
 · by_cases e:k=n
   · subst e;rw [u.at_] at hk;cases hk;exact ho
   · rw [u.other k e] at hk;exact a.own q k o' hk
 rcases a.tag k o1 hk hm with ⟨o',m',t'⟩ | m'
 · exact .inl ⟨o',(u.other k (by omega)).trans m',t'⟩
 · exact .inr ((u.other k (by omega)).trans m')
theorem Keeps.all {h h':AH} (a:Keeps [] h h'):∀ n,n < h.next→h'.m n=h.m n:=fun n hn=>by
 cases hm:h.m n with
 | none=>exact a.none_ n hn hm
 | some o=>exact a.keep n o hn hm (by simp)
theorem Keeps.at {T:Tags} {h h':AH} (a:Keeps T h h') {n:Nat} {o:AO} (hm:h.m n=some o) (hn:n < h.next) (ht:T.contains o.tag=false):h'.m n=some o :=
 a.keep n o hn hm fun q=>by simp [q] at ht
theorem ne_tag {h:AH} {a b:Nat} {x y:AO} (hx:h.m a=some x) (hy:h.m b=some y) (ht:x.tag≠y.tag):a≠b:=fun e=>by
 subst e;rw [hx] at hy;cases hy;exact ht rfl
def Gives (T:Tags) (h0:AH) (v:V) (R:AH→Prop):AEnd→AH→Prop:=fun e h'=>e=.ret v∧Keeps T h0 h'∧R h'
theorem callG {f:FuncId} {args:List V} {h:AH} {T:Tags} {v:V} {R:AH→Prop} {K X:V→AH→Prop} (c:ACalls P f args h (Gives T h v R)) (k:∀ h',Keeps T h h'→R h'→K v h'):ACalls P f args h (aEnd K X) :=
 c.mono fun e h' q=>by obtain ⟨rfl,q1,q2⟩:=q;exact k h' q1 q2
theorem Gives.mono {T T':Tags} {h h0:AH} {v:V} {R R':AH→Prop} (k:Keeps T' h0 h) (hT:(T.all fun t=>T'.contains t)=true) (hR:∀ h',R h'→R' h') {e:AEnd} {h':AH} (g:Gives T h v R e h'):Gives T' h0 v R' e h' :=
 ⟨g.1,k.trans (g.2.1.sub hT),hR _ g.2.2⟩
structure Only (p:Nat) (h h':AH):Prop where
 next:h.next≤h'.next
 same:∀ n,n < h.next→n≠p→h'.m n=h.m n
theorem Only.refl (p:Nat) (h:AH):Only p h h:=⟨Nat.le_refl _,fun _ _ _=>rfl⟩
theorem Only.trans {p:Nat} {h h1 h2:AH} (a:Only p h h1) (b:Only p h1 h2):Only p h h2 :=
 ⟨Nat.le_trans a.next b.next,fun n hn hp=>(b.same n (Nat.lt_of_lt_of_le hn a.next) hp).trans (a.same n hn hp)⟩
theorem Only.upd {p:Nat} {h h':AH} {o:AO} (u:Upd h h' p o):Only p h h':=⟨by have:=u.next;omega,fun n _ hp=>u.other n hp⟩
theorem Only.new {p:Nat} {h h':AH} {o:AO} (u:New h h' o):Only p h h':=⟨by have:=u.next;omega,fun n hn _=>u.other n hn⟩
theorem Only.young {p n:Nat} {h h1 h2:AH} {o:AO} (a:Only p h h1) (u:Upd h1 h2 n o) (hn:h.next≤n):Only p h h2 :=
 ⟨by have:=a.next;have:=u.next;omega,fun k hk hp=>(u.other k (by omega)).trans (a.same k hk hp)⟩
def fieldsB (P:Program) (t:TypeId) (ts:List Nat):Bool:=match ul P t with
 | some (.struct fs)=>fs.toList.map (fun f:Field=>f.type) == ts
 | _=>false
theorem bld_struct {t:TypeId} {zs l:List V} {ps:List (Nat × V)} (ts:List Nat) (hz:zeroV P t=some (.agg zs)) (hf:fieldsB P t ts=true) (hp:putParts P (fun i=>ts[i]?) zs ps=some l):aBuild P t ps=some (.agg l):=by
 unfold fieldsB at hf
 split at hf
 · rename_i fs hu
   have hf:=beq_iff_eq.1 hf
   unfold aBuild
   rw [hz]
   simp only [hu]
   have e:(fun i:Nat=>(fs[i]?).map fun f:Field=>f.type)=fun i=>ts[i]?:=by
     funext i
     rw [← hf]
     simp
   rw [e,hp]
 · cases hf
end Go.Ab
namespace Go.Ab
open Go Go.RowKit
theorem acallsD_mono {P:Program} {f:FuncId} {args:List V} {h:AH} {Q Q':AEnd→AH→Prop} (c:ACallsD P f args h Q) (m:∀ e h',Q e h'→Q' e h'):ACallsD P f args h Q' :=
 fun B ι W vs u F r=>(c B ι W vs u F r).mono fun _ _ _ ⟨a,ι',h',ae,a1,a2,a3,a4⟩=>⟨a,ι',h',ae,a1,a2,a3,m _ _ a4⟩
section
variable {κ α:Type} [DecidableEq κ]
def kfind:List (κ × α)→κ→Option (Nat × α)
 | [],_=>none
 | (k',s) :: l,k=>if k'=k then some (0,s) else (kfind l k).map fun x=>(x.1 + 1,x.2)
def kget (l:List (κ × α)) (k:κ):Option α:=(kfind l k).map (·.2)
def kset:List (κ × α)→κ→α→List (κ × α)
 | [],k,s=>[(k,s)]
 | (k',s') :: l,k,s=>if k'=k then (k,s) :: l else (k',s') :: kset l k s
def kmV (kV:κ→V) (vV:α→V) (l:List (κ × α)):List (V × V):=l.map fun x=>(kV x.1,vV x.2)
variable {kV:κ→V} {vV:α→V}
theorem aFind_k (hk:∀ a b,beqV (kV a) (kV b)=some (decide (b=a))) (k:κ):∀ l:List (κ × α),aFind (kV k) (kmV kV vV l)=some ((kfind l k).map fun x=>(x.1,vV x.2))
 | []=>rfl
 | (k',s) :: l=>by
   have e:kmV kV vV ((k',s) :: l)=(kV k',vV s) :: kmV kV vV l:=rfl
   rw [e,aFind,hk]
   by_cases h:k'=k
   · rw [decide_eq_true h,kfind,if_pos h];rfl
   · rw [decide_eq_false h,kfind,if_neg h]
     simp only [aFind_k hk k l]
     cases kfind l k with
     | none=>rfl
     | some x=>rfl
theorem kset_some {k:κ} {s s0:α}:∀ {l:List (κ × α)} {j:Nat},kfind l k=some (j,s0)→(kmV kV vV l).set j (kV k,vV s)=kmV kV vV (kset l k s)
 | [],j,h=>by cases h
 | (k',s') :: l,j,h=>by
   unfold kfind at h
   by_cases q:k'=k
   · rw [if_pos q] at h
     simp only [Option.some.injEq,Prod.mk.injEq] at h
     obtain ⟨rfl,rfl⟩:=h
     rw [kset,if_pos q];rfl
   · rw [if_neg q] at h
     cases hf:kfind l k with
     | none=>rw [hf] at h;cases h
     | some x =>
       rw [hf] at h
       simp only [Option.map_some,Option.some.injEq,Prod.mk.injEq] at h
       obtain ⟨rfl,rfl⟩:=h
       rw [kset,if_neg q]
       have:=kset_some (s:=s) hf
       show (kV k',vV s') :: (kmV kV vV l).set x.1 _=_
       rw [this];rfl
theorem kset_none {k:κ} {s:α}:∀ {l:List (κ × α)},kfind l k=none→kmV kV vV l++[(kV k,vV s)]=kmV kV vV (kset l k s)
 | [],h=>rfl
 | (k',s') :: l,h=>by
   unfold kfind at h
   by_cases q:k'=k
   · rw [if_pos q] at h;cases h
   · rw [if_neg q] at h
     have h2:kfind l k=none:=by
       cases hf:kfind l k with
       | none=>rfl
       | some x=>rw [hf] at h;cases h
     rw [kset,if_neg q]
     have:=kset_none (s:=s) h2
     show (kV k',vV s') :: (kmV kV vV l++_)=_
     rw [this];rfl
theorem kget_set (k k2:κ) (s:α):∀ l:List (κ × α),kget (kset l k s) k2=if k=k2 then some s else kget l k2
 | []=>by
   unfold kset kget kfind
   split <;> simp [kfind]
 | (k',s') :: l=>by
   have ih:=kget_set k k2 s l
   unfold kget at ih ⊢
   unfold kset
   by_cases q:k'=k
   · rw [if_pos q,kfind,kfind]
     subst q
     split <;> simp
   · rw [if_neg q,kfind,kfind]
     by_cases r:k'=k2
     · rw [if_pos r,if_pos r,if_neg (fun e=>q (r.trans e.symm))]
     · rw [if_neg r,if_neg r]
       simp only [Option.map_map]
       have e2:((fun x:Nat × α=>x.2) ∘ fun x:Nat × α=>(x.1 + 1,x.2))=fun x=>x.2:=rfl
       rw [e2,ih]
def Kuniq:List (κ × α)→Prop
 | []=>True
 | (k,_) :: l=>kget l k=none∧Kuniq l
theorem kuniq_set {l:List (κ × α)} (hu:Kuniq l) (k:κ) (s:α):Kuniq (kset l k s):=by
 induction l with
 | nil=>exact ⟨rfl,trivial⟩
 | cons x l ih =>
   obtain ⟨k',s'⟩:=x
   obtain ⟨u1,u2⟩:=hu
   rw [kset]
   by_cases q:k'=k
   · rw [if_pos q];subst q;exact ⟨u1,u2⟩
   · rw [if_neg q]
     refine ⟨?_,ih u2⟩
     rw [kget_set,if_neg (fun e=>q e.symm)];exact u1
variable {P:Program} {h:AH} {t kt et:TypeId} {n:Nat} {l:List (κ × α)}
def mpOk (P:Program) (t kt et:TypeId):Bool:=(match ul P t with | some (.map a b)=>a == kt && b == et | _=>false) && plainT P 20 kt
theorem mpOk_u (hc:mpOk P t kt et=true):ul P t=some (.map kt et)∧plainT P 20 kt=true:=by
 unfold mpOk at hc
 split at hc
 · rename_i a b e
   simp only [Bool.and_eq_true,beq_iff_eq] at hc
   obtain ⟨⟨rfl,rfl⟩,h2⟩:=hc
   exact ⟨e,h2⟩
 · simp at hc
theorem kLook2 (hk:∀ a b,beqV (kV a) (kV b)=some (decide (b=a))) (hc:mpOk P t kt et=true) (hm:h.m n=some (.mp kt et (kmV kV vV l))) {k:κ} (hs:hasShape P (kV k) kt=true) {z:V} (hz:zeroV P et=some z) :
   aLookup P h t (.map (some n)) (kV k) true=some (.tup [((kget l k).map vV).getD z,.bool (kget l k).isSome]):=by
 obtain ⟨hu,hp⟩:=mpOk_u hc
 unfold aLookup
 rw [hu]
 simp only [hp,hs,Bool.and_self,if_true,hm,and_self]
 rw [aFind_k hk]
 unfold kget
 cases kfind l k with
 | none=>simp only [Option.map_none,hz];rfl
 | some x=>rfl
theorem kSet (hk:∀ a b,beqV (kV a) (kV b)=some (decide (b=a))) (hc:mpOk P t kt et=true) (hm:h.m n=some (.mp kt et (kmV kV vV l))) {k:κ} {s:α} (hs:hasShape P (kV k) kt=true) (hv:hasShape P (vV s) et=true) :
   ∃ h',quietly (aMapSet P h t (.map (some n)) (kV k) (vV s))=some (hole,h')∧Upd h h' n (.mp kt et (kmV kV vV (kset l k s))):=by
 obtain ⟨hu,hp⟩:=mpOk_u hc
 unfold aMapSet
 rw [hu]
 simp only [hp,hs,hv,Bool.and_self,if_true,hm,and_self]
 rw [aFind_k hk]
 cases hf:kfind l k with
 | none =>
   simp only [Option.map_none]
   rw [kset_none hf]
   exact ⟨_,rfl,upd_put _ _ _⟩
 | some x =>
   simp only [Option.map_some]
   rw [kset_some hf]
   exact ⟨_,rfl,upd_put _ _ _⟩
end
end Go.Ab
namespace Go.Proofs.Ytdfgfbammkojoaa.Sh
open Go Go.Ab Go.RowKit
open Go.Proofs.Ytdfgfbammkojoaa.Ru (Pg okP)
set_option maxRecDepth 100000
noncomputable def B11:Code:=(Try.f11.body).getD .skip
def R11:List ResultVar:=[.tmp 2]
abbrev N11:Nat:=12
def K11:KT:=(.seq .leaf (.seq .leaf (.seq .leaf .leaf [2]) [3]) [1])
theorem S11 (Q:AEnd→AH→Prop) (a0:V) (h:AH):vc Pg N11 B11 K11 (vcRet Pg R11 Q) (initEnv 0 [a0]) h=(
 bindV (aNew Pg h 31 a0) fun v1 h2 =>
 bindV (still (aSlice Pg h2 31 v1 none none) h2) fun v3 h4 =>
 bindV (still (aConv Pg h4 114 9 v3) h4) fun v5 h6 =>
 ACalls Pg 41 [v5,(V.int .i64 7),(V.int .i64 8)] h6 (aEnd (fun v7 h8 =>
 bindV (still (aExtract v7 0) h8) fun v9 h10 =>
 bindV (still (aExtract v7 1) h10) fun v11 h12 =>
 Q (.ret v9) h12) fun v h=>Q (.panic v) h)):=by kernel_rfl
theorem C11 (Q:AEnd→AH→Prop) (a0:V) (h:AH) (c :
 bindV (aNew Pg h 31 a0) fun v1 h2 =>
 bindV (still (aSlice Pg h2 31 v1 none none) h2) fun v3 h4 =>
 bindV (still (aConv Pg h4 114 9 v3) h4) fun v5 h6 =>
 ACalls Pg 41 [v5,(V.int .i64 7),(V.int .i64 8)] h6 (aEnd (fun v7 h8 =>
 bindV (still (aExtract v7 0) h8) fun v9 h10 =>
 bindV (still (aExtract v7 1) h10) fun v11 h12 =>
 Q (.ret v9) h12) fun v h=>Q (.panic v) h)):ACalls Pg 11 [a0] h Q :=
 acalls_of_vc okP Try.func11 (show Try.f11.body=some B11 from by kernel_rfl) K11 (by rw [← S11 Q a0 h] at c;exact c)
noncomputable def B16:Code:=(Try.f16.body).getD .skip
def R16:List ResultVar:=[.cell 2 31]
abbrev N16:Nat:=19
def K16:KT:=(.seq .leaf (.join (.seq .leaf (.two (.seq .leaf (.seq .leaf .leaf [2]) [2,3]) .leaf) [1,2,6]) (.seq .leaf .leaf [2]) [1,2]) [1,2])
def Jz2r (Q:AEnd→AH→Prop) (x1 x2:V) (h:AH):Prop:=vcAt Pg N16 B16 K16 [1,1] [] (vcRet Pg R16 Q) [(1,x1),(2,x2)] h
theorem Jz2r_eq (Q:AEnd→AH→Prop) (x1 x2:V) (h:AH):Jz2r Q x1 x2 h=(
 bindV (still (aFieldAddr Pg 29 x1 1) h) fun v29 h30 =>
 bindV (aLoadV Pg h30 27 v29) fun v31 h32 =>
 bindV (still (aBuild Pg 83 []) h32) fun v33 h34 =>
 ACalls Pg 45 [v31,v33] h34 (aEnd (fun v35 h36 =>
 bindV (aStoreV Pg h36 31 x2 v35) fun _ h38 =>
 bindR (aRes Pg [(2,x2)] h38 R16) fun v=>Q (.ret v) h38) fun v h=>Q (.panic v) h)):=by kernel_rfl
theorem S16 (Q:AEnd→AH→Prop) (a0:V) (h:AH):vc Pg N16 B16 K16 (vcRet Pg R16 Q) (initEnv 0 [a0]) h=(
 bindV (aNew Pg h 29 a0) fun v1 h2 =>
 bindV (aAlloc Pg h2 31) fun v3 h4 =>
 bindV (still (aFieldAddr Pg 29 v1 0) h4) fun v5 h6 =>
 bindV (aLoadV Pg h6 4 v5) fun v7 h8 =>
 vcIf v7 (
 bindV (still (aFieldAddr Pg 29 v1 1) h8) fun v9 h10 =>
 bindV (aLoadV Pg h10 27 v9) fun v11 h12 =>
 bindV (still (aBuild Pg 129 []) h12) fun v13 h14 =>
 ACalls Pg 44 [v11,v13] h14 (aEnd (fun v15 h16 =>
 bindV (still (aExtract v15 0) h16) fun v17 h18 =>
 bindV (still (aExtract v15 1) h18) fun v19 h20 =>
 bindV (aAlloc Pg h20 31) fun v21 h22 =>
 bindV (aStoreV Pg h22 31 v21 v17) fun _ h24 =>
 bindV (aLoadV Pg h24 31 v21) fun v25 h26 =>
 bindV (aStoreV Pg h26 31 v3 v25) fun _ h28 =>
 bindR (aRes Pg [(2,v3)] h28 R16) fun v=>Q (.ret v) h28) fun v h=>Q (.panic v) h)) (
 Meet (Jz2r Q v1 v3 h8))):=by kernel_rfl
theorem C16 (Q:AEnd→AH→Prop) (a0:V) (h:AH) (c :
 bindV (aNew Pg h 29 a0) fun v1 h2 =>
 bindV (aAlloc Pg h2 31) fun v3 h4 =>
 bindV (still (aFieldAddr Pg 29 v1 0) h4) fun v5 h6 =>
 bindV (aLoadV Pg h6 4 v5) fun v7 h8 =>
 vcIf v7 (
 bindV (still (aFieldAddr Pg 29 v1 1) h8) fun v9 h10 =>
 bindV (aLoadV Pg h10 27 v9) fun v11 h12 =>
 bindV (still (aBuild Pg 129 []) h12) fun v13 h14 =>
 ACalls Pg 44 [v11,v13] h14 (aEnd (fun v15 h16 =>
 bindV (still (aExtract v15 0) h16) fun v17 h18 =>
 bindV (still (aExtract v15 1) h18) fun v19 h20 =>
 bindV (aAlloc Pg h20 31) fun v21 h22 =>
 bindV (aStoreV Pg h22 31 v21 v17) fun _ h24 =>
 bindV (aLoadV Pg h24 31 v21) fun v25 h26 =>
 bindV (aStoreV Pg h26 31 v3 v25) fun _ h28 =>
 bindR (aRes Pg [(2,v3)] h28 R16) fun v=>Q (.ret v) h28) fun v h=>Q (.panic v) h)) (
 Meet (Jz2r Q v1 v3 h8))):ACalls Pg 16 [a0] h Q :=
 acalls_of_vc okP Try.func16 (show Try.f16.body=some B16 from by kernel_rfl) K16 (by rw [← S16 Q a0 h] at c;exact c)
noncomputable def B29:Code:=(Try.f29.body).getD .skip
def R29:List ResultVar:=[.cell 4 83,.tmp 5]
abbrev N29:Nat:=58
def K29:KT:=(.seq .leaf (.join (.seq .leaf (.two (.seq .leaf .leaf [4,5]) .leaf) [3,4,17]) (.join (.seq .leaf (.one (.loop (.seq .leaf (.join (.two .leaf .leaf) (.join (.one (.seq .leaf (.seq .leaf (.two (.seq .leaf .leaf [4,5]) .leaf) [3,4,19,20,21,26]) [3,4,7,19,20,21])) .leaf [3,4,19,20,21]) [3,4,19,20,21]) [3,4,19,20,21,22]) [3,4,19,20,21])) [3,4,19,20,21]) (.seq .leaf (.seq .leaf (.seq .leaf (.seq .leaf (.seq .leaf (.seq .leaf (.seq (.eff [3]) (.seq .leaf .leaf [4,5]) [4,9]) [3,4,9]) [3,4,9,12]) [3,4,9,10,12]) [3,4,8,9,10]) [3,4,8,9]) [3,4,8]) [3,4]) [3,4]) [0,3,4])
def Jz3o (Q:AEnd→AH→Prop) (n:Nat) (x3 x4 x19 x20 x21:V) (h:AH):Prop:=vcAt Pg N29 B29 K29 [1,1,0,1,0,0,1,1,1] [n] (vcRet Pg R29 Q) [(3,x3),(4,x4),(19,x19),(20,x20),(21,x21)] h
def Jz3n (Q:AEnd→AH→Prop) (n:Nat) (x3 x4 x19 x20 x21:V) (h:AH):Prop:=vcAt Pg N29 B29 K29 [1,1,0,1,0,0,1,1] [n] (vcRet Pg R29 Q) [(3,x3),(4,x4),(19,x19),(20,x20),(21,x21)] h
def Jz3p (Q:AEnd→AH→Prop) (x3 x4:V) (h:AH):Prop:=vcAt Pg N29 B29 K29 [1,1,1] [] (vcRet Pg R29 Q) [(3,x3),(4,x4)] h
def Lz7b (Q:AEnd→AH→Prop) (n:Nat) (x3 x4 x19 x20 x21:V) (h:AH):Prop:=loopAt Pg N29 B29 K29 [1,1,0,1,0] [] n (vcRet Pg R29 Q) [(3,x3),(4,x4),(19,x19),(20,x20),(21,x21)] h
def Jz3m (Q:AEnd→AH→Prop) (x3 x4:V) (h:AH):Prop:=vcAt Pg N29 B29 K29 [1,1] [] (vcRet Pg R29 Q) [(3,x3),(4,x4)] h
theorem Jz3o_eq (Q:AEnd→AH→Prop) (n:Nat) (x3 x4 x19 x20 x21:V) (h:AH):Jz3o Q n x3 x4 x19 x20 x21 h=(
 bindV (still (aBin Pg .add 3 x21 (V.int .i64 1) true) h) fun v31 h32 =>
 Meet (Lz7b Q n x3 x4 x19 x20 v31 h32)):=by kernel_rfl
theorem Jz3n_eq (Q:AEnd→AH→Prop) (n:Nat) (x3 x4 x19 x20 x21:V) (h:AH):Jz3n Q n x3 x4 x19 x20 x21 h=(
 bindV (still (aIndexAddr Pg 114 x19 x21) h) fun v21 h22 =>
 bindV (aLoadV Pg h22 5 v21) fun v23 h24 =>
 bindV (still (aBin Pg .neq 5 v23 (V.int .u8 0) true) h24) fun v25 h26 =>
 vcIf v25 (
 bindV (still (aBuild Pg 83 []) h26) fun v27 h28 =>
 bindV (aStoreV Pg h28 83 x4 v27) fun _ h30 =>
 bindR (aRes Pg [(4,x4),(5,(V.int .i64 2))] h30 R29) fun v=>Q (.ret v) h30) (
 Meet (Jz3o Q n x3 x4 x19 x20 x21 h26))):=by kernel_rfl
theorem Jz3p_eq (Q:AEnd→AH→Prop) (x3 x4:V) (h:AH):Jz3p Q x3 x4 h=(
 bindV (still (aSlice Pg h 31 x3 none none) h) fun v33 h34 =>
 bindV (still (aConv Pg h34 114 9 v33) h34) fun v35 h36 =>
 bindV (aLoadV Pg h36 31 x3) fun v37 h38 =>
 ACalls Pg 11 [v37] h38 (aEnd (fun v39 h40 =>
 bindV (still (aBuild Pg 83 [(0,v39)]) h40) fun v41 h42 =>
 bindV (aAlloc Pg h42 83) fun v43 h44 =>
 bindV (aStoreV Pg h44 83 v43 v41) fun _ h46 =>
 ACalls Pg 41 [v35,(V.int .i64 15),(V.int .i64 4)] h46 (aEnd (fun v47 h48 =>
 bindV (still (aExtract v47 0) h48) fun v49 h50 =>
 bindV (still (aExtract v47 1) h50) fun v51 h52 =>
 ACalls Pg 41 [v35,(V.int .i64 19),(V.int .i64 2)] h52 (aEnd (fun v53 h54 =>
 bindV (still (aExtract v53 0) h54) fun v55 h56 =>
 bindV (still (aExtract v53 1) h56) fun v57 h58 =>
 bindV (still (aConv Pg h58 42 32 v49) h58) fun v59 h60 =>
 bindV (still (aFieldAddr Pg 83 v43 1) h60) fun v61 h62 =>
 bindV (aStoreV Pg h62 32 v61 v59) fun _ h64 =>
 bindV (still (aConv Pg h64 42 27 v55) h64) fun v65 h66 =>
 bindV (still (aIndexAddr Pg 31 x3 (V.int .i64 21)) h66) fun v67 h68 =>
 bindV (aLoadV Pg h68 5 v67) fun v69 h70 =>
 bindV (still (aBuild Pg 34 [(0,v65),(1,v69)]) h70) fun v71 h72 =>
 bindV (still (aFieldAddr Pg 83 v43 2) h72) fun v73 h74 =>
 bindV (aStoreV Pg h74 34 v73 v71) fun _ h76 =>
 bindO (fstV (still (aFieldAddr Pg 83 v43 3) h76)) fun v77 =>
 bindO (fstV (still (aSlice Pg h76 81 v77 none none) h76)) fun v78 =>
 (
 bindO (fstV (still (aSlice Pg h76 31 x3 (some (V.int .i64 22)) none) h76)) fun v79 =>
 (
 bindV (aBuiltin Pg h76 .copy [114,114] [v78,v79]) fun v80 h81=>(
 bindV (aLoadV Pg h81 83 v43) fun v82 h83 =>
 bindV (aStoreV Pg h83 83 x4 v82) fun _ h85 =>
 bindR (aRes Pg [(4,x4),(5,(V.int .i64 0))] h85 R29) fun v=>Q (.ret v) h85)))) fun v h=>Q (.panic v) h)) fun v h=>Q (.panic v) h)) fun v h=>Q (.panic v) h)):=by kernel_rfl
theorem Lz7b_eq (Q:AEnd→AH→Prop) (n:Nat) (x3 x4 x19 x20 x21:V) (h:AH):Lz7b Q (n + 1) x3 x4 x19 x20 x21 h=(
 bindV (still (aBin Pg .lss 3 x21 x20 false) h) fun v19 h20 =>
 vcIf v19 (
 Meet (Jz3n Q n x3 x4 x19 x20 x21 h20)) (
 Meet (Jz3p Q x3 x4 h20))):=by kernel_rfl
theorem Jz3m_eq (Q:AEnd→AH→Prop) (x3 x4:V) (h:AH):Jz3m Q x3 x4 h=(
 bindV (still (aSlice Pg h 31 x3 (some (V.int .i64 86)) none) h) fun v15 h16 =>
 bindV (aBuiltin Pg h16 .len [114] [v15]) fun v17 h18 =>
 ∃ n,Meet (Lz7b Q n x3 x4 v15 v17 (V.int .i64 0) h18)):=by kernel_rfl
theorem S29 (Q:AEnd→AH→Prop) (a0 a1:V) (h:AH):vc Pg N29 B29 K29 (vcRet Pg R29 Q) (initEnv 0 [a0,a1]) h=(
 bindV (aNew Pg h 31 a1) fun v1 h2 =>
 bindV (aAlloc Pg h2 83) fun v3 h4 =>
 bindV (aLoadV Pg h4 31 v1) fun v5 h6 =>
 ACalls Pg 64 [(V.int .u8 1),a0,v5] h6 (aEnd (fun v7 h8 =>
 bindV (still (aUn .not v7) h8) fun v9 h10 =>
 vcIf v9 (
 bindV (still (aBuild Pg 83 []) h10) fun v11 h12 =>
 bindV (aStoreV Pg h12 83 v3 v11) fun _ h14 =>
 bindR (aRes Pg [(4,v3),(5,(V.int .i64 2))] h14 R29) fun v=>Q (.ret v) h14) (
 Meet (Jz3m Q v1 v3 h10))) fun v h=>Q (.panic v) h)):=by kernel_rfl
theorem C29 (Q:AEnd→AH→Prop) (a0 a1:V) (h:AH) (c :
 bindV (aNew Pg h 31 a1) fun v1 h2 =>
 bindV (aAlloc Pg h2 83) fun v3 h4 =>
 bindV (aLoadV Pg h4 31 v1) fun v5 h6 =>
 ACalls Pg 64 [(V.int .u8 1),a0,v5] h6 (aEnd (fun v7 h8 =>
 bindV (still (aUn .not v7) h8) fun v9 h10 =>
 vcIf v9 (
 bindV (still (aBuild Pg 83 []) h10) fun v11 h12 =>
 bindV (aStoreV Pg h12 83 v3 v11) fun _ h14 =>
 bindR (aRes Pg [(4,v3),(5,(V.int .i64 2))] h14 R29) fun v=>Q (.ret v) h14) (
 Meet (Jz3m Q v1 v3 h10))) fun v h=>Q (.panic v) h)):ACalls Pg 29 [a0,a1] h Q :=
 acalls_of_vc okP Try.func29 (show Try.f29.body=some B29 from by kernel_rfl) K29 (by rw [← S29 Q a0 a1 h] at c;exact c)
noncomputable def B39:Code:=(Try.f39.body).getD .skip
def R39:List ResultVar:=[.tmp 4]
abbrev N39:Nat:=29
def K39:KT:=(.seq .leaf (.join (.seq .leaf (.two (.seq .leaf (.seq .leaf .leaf [4]) [6]) .leaf) [2,3,10]) (.seq .leaf (.seq .leaf .leaf [4]) [8]) [2,3]) [2,3])
def Jz48 (Q:AEnd→AH→Prop) (x2 x3:V) (h:AH):Prop:=vcAt Pg N39 B39 K39 [1,1] [] (vcRet Pg R39 Q) [(2,x2),(3,x3)] h
theorem Jz48_eq (Q:AEnd→AH→Prop) (x2 x3:V) (h:AH):Jz48 Q x2 x3 h=(
 bindV (still (aFieldAddr Pg 29 x2 1) h) fun v27 h28 =>
 bindV (aLoadV Pg h28 27 v27) fun v29 h30 =>
 bindV (aLoadV Pg h30 31 x3) fun v31 h32 =>
 ACalls Pg 29 [v29,v31] h32 (aEnd (fun v33 h34 =>
 bindV (still (aExtract v33 0) h34) fun v35 h36 =>
 bindV (still (aExtract v33 1) h36) fun v37 h38 =>
 bindV (aAlloc Pg h38 83) fun v39 h40 =>
 bindV (aStoreV Pg h40 83 v39 v35) fun _ h42 =>
 bindV (still (aBin Pg .eql 39 v37 (V.int .i64 0) true) h42) fun v43 h44 =>
 Q (.ret v43) h44) fun v h=>Q (.panic v) h)):=by kernel_rfl
theorem S39 (Q:AEnd→AH→Prop) (a0 a1:V) (h:AH):vc Pg N39 B39 K39 (vcRet Pg R39 Q) (initEnv 0 [a0,a1]) h=(
 bindV (aNew Pg h 29 a0) fun v1 h2 =>
 bindV (aNew Pg h2 31 a1) fun v3 h4 =>
 bindV (still (aFieldAddr Pg 29 v1 0) h4) fun v5 h6 =>
 bindV (aLoadV Pg h6 4 v5) fun v7 h8 =>
 vcIf v7 (
 bindV (still (aFieldAddr Pg 29 v1 1) h8) fun v9 h10 =>
 bindV (aLoadV Pg h10 27 v9) fun v11 h12 =>
 bindV (aLoadV Pg h12 31 v3) fun v13 h14 =>
 ACalls Pg 60 [v11,v13] h14 (aEnd (fun v15 h16 =>
 bindV (still (aExtract v15 0) h16) fun v17 h18 =>
 bindV (still (aExtract v15 1) h18) fun v19 h20 =>
 bindV (aAlloc Pg h20 129) fun v21 h22 =>
 bindV (aStoreV Pg h22 129 v21 v17) fun _ h24 =>
 bindV (still (aBin Pg .eql 39 v19 (V.int .i64 0) true) h24) fun v25 h26 =>
 Q (.ret v25) h26) fun v h=>Q (.panic v) h)) (
 Meet (Jz48 Q v1 v3 h8))):=by kernel_rfl
theorem C39 (Q:AEnd→AH→Prop) (a0 a1:V) (h:AH) (c :
 bindV (aNew Pg h 29 a0) fun v1 h2 =>
 bindV (aNew Pg h2 31 a1) fun v3 h4 =>
 bindV (still (aFieldAddr Pg 29 v1 0) h4) fun v5 h6 =>
 bindV (aLoadV Pg h6 4 v5) fun v7 h8 =>
 vcIf v7 (
 bindV (still (aFieldAddr Pg 29 v1 1) h8) fun v9 h10 =>
 bindV (aLoadV Pg h10 27 v9) fun v11 h12 =>
 bindV (aLoadV Pg h12 31 v3) fun v13 h14 =>
 ACalls Pg 60 [v11,v13] h14 (aEnd (fun v15 h16 =>
 bindV (still (aExtract v15 0) h16) fun v17 h18 =>
 bindV (still (aExtract v15 1) h18) fun v19 h20 =>
 bindV (aAlloc Pg h20 129) fun v21 h22 =>
 bindV (aStoreV Pg h22 129 v21 v17) fun _ h24 =>
 bindV (still (aBin Pg .eql 39 v19 (V.int .i64 0) true) h24) fun v25 h26 =>
 Q (.ret v25) h26) fun v h=>Q (.panic v) h)) (
 Meet (Jz48 Q v1 v3 h8))):ACalls Pg 39 [a0,a1] h Q :=
 acalls_of_vc okP Try.func39 (show Try.f39.body=some B39 from by kernel_rfl) K39 (by rw [← S39 Q a0 a1 h] at c;exact c)
noncomputable def B44:Code:=(Try.f44.body).getD .skip
def R44:List ResultVar:=[.cell 4 31,.tmp 5]
abbrev N44:Nat:=70
def K44:KT:=(.seq .leaf (.join (.seq .leaf (.two (.seq .leaf .leaf [4,5]) .leaf) [0,3,4,13]) (.seq .leaf (.seq .leaf (.seq .leaf (.join (.seq .leaf (.one (.loop (.seq .leaf (.join (.two .leaf .leaf) (.join (.one (.seq .leaf (.seq .leaf (.join (.seq .leaf (.two .leaf .leaf) [0,3,4,6,7,9,10,21,22,23,28]) .leaf [0,3,4,6,7,10,21,22,23]) [0,3,4,6,7,9,10,21,22,23]) [0,3,4,6,7,9,21,22,23])) .leaf [0,3,4,6,7,21,22,23]) [0,3,4,6,7,21,22,23]) [0,3,4,6,7,21,22,23,24]) [0,3,4,6,7,21,22,23])) [0,3,4,6,7,21,22,23]) (.seq .leaf .leaf [4,5]) [0,3,4,6]) [0,3,4,6,7]) [0,3,4,6]) [0,3,4,6]) [0,3,4]) [0,3,4])
def Jz50 (Q:AEnd→AH→Prop) (n:Nat) (x0 x3 x4 x6 x7 x21 x22 x23:V) (h:AH):Prop:=vcAt Pg N44 B44 K44 [1,1,1,1,1,0,1,0,0,1,1,1] [n] (vcRet Pg R44 Q) [(0,x0),(3,x3),(4,x4),(6,x6),(7,x7),(21,x21),(22,x22),(23,x23)] h
def Jz4z (Q:AEnd→AH→Prop) (n:Nat) (x0 x3 x4 x6 x7 x10 x21 x22 x23:V) (h:AH):Prop:=vcAt Pg N44 B44 K44 [1,1,1,1,1,0,1,0,0,1,1,0,0,1,1,1] [n] (vcRet Pg R44 Q) [(0,x0),(3,x3),(4,x4),(6,x6),(7,x7),(10,x10),(21,x21),(22,x22),(23,x23)] h
def Jz4y (Q:AEnd→AH→Prop) (n:Nat) (x0 x3 x4 x6 x7 x21 x22 x23:V) (h:AH):Prop:=vcAt Pg N44 B44 K44 [1,1,1,1,1,0,1,0,0,1,1] [n] (vcRet Pg R44 Q) [(0,x0),(3,x3),(4,x4),(6,x6),(7,x7),(21,x21),(22,x22),(23,x23)] h
def Jz51 (Q:AEnd→AH→Prop) (x0 x3 x4 x6:V) (h:AH):Prop:=vcAt Pg N44 B44 K44 [1,1,1,1,1,1] [] (vcRet Pg R44 Q) [(0,x0),(3,x3),(4,x4),(6,x6)] h
def Lz7h (Q:AEnd→AH→Prop) (n:Nat) (x0 x3 x4 x6 x7 x21 x22 x23:V) (h:AH):Prop:=loopAt Pg N44 B44 K44 [1,1,1,1,1,0,1,0] [] n (vcRet Pg R44 Q) [(0,x0),(3,x3),(4,x4),(6,x6),(7,x7),(21,x21),(22,x22),(23,x23)] h
def Jz4x (Q:AEnd→AH→Prop) (x0 x3 x4:V) (h:AH):Prop:=vcAt Pg N44 B44 K44 [1,1] [] (vcRet Pg R44 Q) [(0,x0),(3,x3),(4,x4)] h
theorem Jz50_eq (Q:AEnd→AH→Prop) (n:Nat) (x0 x3 x4 x6 x7 x21 x22 x23:V) (h:AH):Jz50 Q n x0 x3 x4 x6 x7 x21 x22 x23 h=(
 bindV (still (aBin Pg .add 3 x23 (V.int .i64 1) true) h) fun v83 h84 =>
 Meet (Lz7h Q n x0 x3 x4 x6 x7 x21 x22 v83 h84)):=by kernel_rfl
theorem Jz4z_eq (Q:AEnd→AH→Prop) (n:Nat) (x0 x3 x4 x6 x7 x10 x21 x22 x23:V) (h:AH):Jz4z Q n x0 x3 x4 x6 x7 x10 x21 x22 x23 h=(
 bindV (still (aSlice Pg h 31 x6 (some x7) none) h) fun v77 h78 =>
 bindV (aBuiltin Pg h78 .copy [114,9] [v77,x10]) fun v79 h80 =>
 bindV (still (aBin Pg .add 3 x7 v79 false) h80) fun v81 h82 =>
 Meet (Jz50 Q n x0 x3 x4 x6 v81 x21 x22 x23 h82)):=by kernel_rfl
theorem Jz4y_eq (Q:AEnd→AH→Prop) (n:Nat) (x0 x3 x4 x6 x7 x21 x22 x23:V) (h:AH):Jz4y Q n x0 x3 x4 x6 x7 x21 x22 x23 h=(
 bindV (still (aIndexAddr Pg 127 x21 x23) h) fun v37 h38 =>
 bindV (aLoadV Pg h38 36 v37) fun v39 h40 =>
 bindV (aAlloc Pg h40 36) fun v41 h42 =>
 bindV (aStoreV Pg h42 36 v41 v39) fun _ h44 =>
 bindV (still (aFieldAddr Pg 36 v41 0) h44) fun v45 h46 =>
 bindV (aLoadV Pg h46 4 v45) fun v47 h48 =>
 vcIf v47 (
 bindO (fstV (still (aFieldAddr Pg 36 v41 1) h48)) fun v49 =>
 bindO (fstV (aLoadV Pg h48 27 v49)) fun v50 =>
 bindO (fstV (still (aConv Pg h48 27 42 v50) h48)) fun v51 =>
 ∃ v52,ACalls Pg 54 [v51,(V.int .i64 2)] h48 (pureE v52 h48)∧(
 bindO (fstV (still (aBin Pg .add 9 (V.str [1]) v52 true) h48)) fun v53 =>
 bindO (fstV (still (aFieldAddr Pg 36 v41 2) h48)) fun v54 =>
 bindO (fstV (aLoadV Pg h48 32 v54)) fun v55 =>
 bindO (fstV (still (aConv Pg h48 32 42 v55) h48)) fun v56 =>
 ∃ v57,ACalls Pg 54 [v56,(V.int .i64 4)] h48 (pureE v57 h48)∧(
 bindO (fstV (still (aBin Pg .add 9 v53 v57 false) h48)) fun v58 =>
 bindO (fstV (still (aFieldAddr Pg 36 v41 3) h48)) fun v59 =>
 bindO (fstV (still (aFieldAddr Pg 34 v59 0) h48)) fun v60 =>
 bindO (fstV (aLoadV Pg h48 27 v60)) fun v61 =>
 bindO (fstV (still (aConv Pg h48 27 42 v61) h48)) fun v62 =>
 ∃ v63,ACalls Pg 54 [v62,(V.int .i64 2)] h48 (pureE v63 h48)∧(
 bindO (fstV (still (aBin Pg .add 9 v58 v63 false) h48)) fun v64 =>
 bindO (fstV (still (aFieldAddr Pg 36 v41 3) h48)) fun v65 =>
 bindO (fstV (still (aFieldAddr Pg 34 v65 1) h48)) fun v66 =>
 bindO (fstV (aLoadV Pg h48 5 v66)) fun v67 =>
 bindO (fstV (still (aFieldAddr Pg 36 v41 4) h48)) fun v68 =>
 bindO (fstV (aLoadV Pg h48 9 v68)) fun v69 =>
 bindO (fstV (aBuiltin Pg h48 .len [9] [v69])) fun v70 =>
 bindO (fstV (still (aConv Pg h48 3 5 v70) h48)) fun v71 =>
 bindO (litConv Pg 114 2 [(0,v67),(1,v71)] 114 9) fun v72 =>
 bindO (fstV (still (aBin Pg .add 9 v64 v72 false) h48)) fun v73 =>
 bindO (fstV (still (aFieldAddr Pg 36 v41 4) h48)) fun v74 =>
 bindO (fstV (aLoadV Pg h48 9 v74)) fun v75 =>
 bindO (fstV (still (aBin Pg .add 9 v73 v75 false) h48)) fun v76 =>
 Meet (Jz4z Q n x0 x3 x4 x6 x7 v76 x21 x22 x23 h48))))) (
 Meet (Jz4z Q n x0 x3 x4 x6 x7 (V.str [0]) x21 x22 x23 h48))):=by kernel_rfl
theorem Jz51_eq (Q:AEnd→AH→Prop) (x0 x3 x4 x6:V) (h:AH):Jz51 Q x0 x3 x4 x6 h=(
 bindV (still (aFieldAddr Pg 129 x3 0) h) fun v85 h86 =>
 bindV (aLoadV Pg h86 42 v85) fun v87 h88 =>
 bindV (aLoadV Pg h88 31 x6) fun v89 h90 =>
 ACalls Pg 69 [(V.int .u8 2),x0,v87,v89] h90 (aEnd (fun v91 h92 =>
 bindV (aStoreV Pg h92 31 x4 v91) fun _ h94 =>
 bindR (aRes Pg [(4,x4),(5,(V.int .i64 0))] h94 R44) fun v=>Q (.ret v) h94) fun v h=>Q (.panic v) h)):=by kernel_rfl
theorem Lz7h_eq (Q:AEnd→AH→Prop) (n:Nat) (x0 x3 x4 x6 x7 x21 x22 x23:V) (h:AH):Lz7h Q (n + 1) x0 x3 x4 x6 x7 x21 x22 x23 h=(
 bindV (still (aBin Pg .lss 3 x23 x22 false) h) fun v35 h36 =>
 vcIf v35 (
 Meet (Jz4y Q n x0 x3 x4 x6 x7 x21 x22 x23 h36)) (
 Meet (Jz51 Q x0 x3 x4 x6 h36))):=by kernel_rfl
theorem Jz4x_eq (Q:AEnd→AH→Prop) (x0 x3 x4:V) (h:AH):Jz4x Q x0 x3 x4 h=(
 bindV (aAlloc Pg h 31) fun v15 h16 =>
 bindV (still (aFieldAddr Pg 129 x3 1) h16) fun v17 h18 =>
 bindV (aLoadV Pg h18 127 v17) fun v19 h20 =>
 bindV (aBuiltin Pg h20 .len [127] [v19]) fun v21 h22 =>
 bindV (still (aConv Pg h22 3 5 v21) h22) fun v23 h24 =>
 bindV (still (aIndexAddr Pg 31 v15 (V.int .i64 15)) h24) fun v25 h26 =>
 bindV (aStoreV Pg h26 5 v25 v23) fun _ h28 =>
 bindV (still (aFieldAddr Pg 129 x3 1) h28) fun v29 h30 =>
 bindV (aLoadV Pg h30 127 v29) fun v31 h32 =>
 bindV (aBuiltin Pg h32 .len [127] [v31]) fun v33 h34 =>
 ∃ n,Meet (Lz7h Q n x0 x3 x4 v15 (V.int .i64 16) v31 v33 (V.int .i64 0) h34)):=by kernel_rfl
theorem S44 (Q:AEnd→AH→Prop) (a0 a1:V) (h:AH):vc Pg N44 B44 K44 (vcRet Pg R44 Q) (initEnv 0 [a0,a1]) h=(
 bindV (aNew Pg h 129 a1) fun v1 h2 =>
 bindV (aAlloc Pg h2 31) fun v3 h4 =>
 bindV (aLoadV Pg h4 129 v1) fun v5 h6 =>
 ACalls Pg 68 [v5] h6 (aEnd (fun v7 h8 =>
 bindV (still (aUn .not v7) h8) fun v9 h10 =>
 vcIf v9 (
 bindV (still (aBuild Pg 31 []) h10) fun v11 h12 =>
 bindV (aStoreV Pg h12 31 v3 v11) fun _ h14 =>
 bindR (aRes Pg [(4,v3),(5,(V.int .i64 1))] h14 R44) fun v=>Q (.ret v) h14) (
 Meet (Jz4x Q a0 v1 v3 h10))) fun v h=>Q (.panic v) h)):=by kernel_rfl
theorem C44 (Q:AEnd→AH→Prop) (a0 a1:V) (h:AH) (c :
 bindV (aNew Pg h 129 a1) fun v1 h2 =>
 bindV (aAlloc Pg h2 31) fun v3 h4 =>
 bindV (aLoadV Pg h4 129 v1) fun v5 h6 =>
 ACalls Pg 68 [v5] h6 (aEnd (fun v7 h8 =>
 bindV (still (aUn .not v7) h8) fun v9 h10 =>
 vcIf v9 (
 bindV (still (aBuild Pg 31 []) h10) fun v11 h12 =>
 bindV (aStoreV Pg h12 31 v3 v11) fun _ h14 =>
 bindR (aRes Pg [(4,v3),(5,(V.int .i64 1))] h14 R44) fun v=>Q (.ret v) h14) (
 Meet (Jz4x Q a0 v1 v3 h10))) fun v h=>Q (.panic v) h)):ACalls Pg 44 [a0,a1] h Q :=
 acalls_of_vc okP Try.func44 (show Try.f44.body=some B44 from by kernel_rfl) K44 (by rw [← S44 Q a0 a1 h] at c;exact c)
noncomputable def B45:Code:=(Try.f45.body).getD .skip
def R45:List ResultVar:=[.cell 4 31]
abbrev N45:Nat:=32
def K45:KT:=(.seq .leaf (.seq .leaf (.seq (.eff [5]) (.seq (.eff [6]) (.seq .leaf (.seq (.eff [3]) (.seq .leaf .leaf [4]) [0,3,4,5]) [0,3,4,5]) [0,3,4,5]) [0,3,4,5]) [0,3,4,5]) [0,3,4])
theorem S45 (Q:AEnd→AH→Prop) (a0 a1:V) (h:AH):vc Pg N45 B45 K45 (vcRet Pg R45 Q) (initEnv 0 [a0,a1]) h=(
 bindV (aNew Pg h 83 a1) fun v1 h2 =>
 bindV (aAlloc Pg h2 31) fun v3 h4 =>
 bindV (aAlloc Pg h4 31) fun v5 h6 =>
 bindO (fstV (still (aSlice Pg h6 31 v5 (some (V.int .i64 15)) none) h6)) fun v7 =>
 (
 bindO (fstV (still (aFieldAddr Pg 83 v1 1) h6)) fun v8 =>
 bindO (fstV (aLoadV Pg h6 32 v8)) fun v9 =>
 (
 bindO (fstV (still (aConv Pg h6 32 42 v9) h6)) fun v10 =>
 (
 ∃ v11,ACalls Pg 54 [v10,(V.int .i64 4)] h6 (pureE v11 h6)∧(
 (
 bindV (aBuiltin Pg h6 .copy [114,9] [v7,v11]) fun v12 h13=>(
 bindO (fstV (still (aSlice Pg h13 31 v5 (some (V.int .i64 19)) none) h13)) fun v14 =>
 (
 bindO (fstV (still (aFieldAddr Pg 83 v1 2) h13)) fun v15 =>
 bindO (fstV (still (aFieldAddr Pg 34 v15 0) h13)) fun v16 =>
 bindO (fstV (aLoadV Pg h13 27 v16)) fun v17 =>
 (
 bindO (fstV (still (aConv Pg h13 27 42 v17) h13)) fun v18 =>
 (
 ∃ v19,ACalls Pg 54 [v18,(V.int .i64 2)] h13 (pureE v19 h13)∧(
 (
 bindV (aBuiltin Pg h13 .copy [114,9] [v14,v19]) fun v20 h21=>(
 bindV (still (aFieldAddr Pg 83 v1 2) h21) fun v22 h23 =>
 bindV (still (aFieldAddr Pg 34 v22 1) h23) fun v24 h25 =>
 bindV (aLoadV Pg h25 5 v24) fun v26 h27 =>
 bindV (still (aIndexAddr Pg 31 v5 (V.int .i64 21)) h27) fun v28 h29 =>
 bindV (aStoreV Pg h29 5 v28 v26) fun _ h31 =>
 bindO (fstV (still (aSlice Pg h31 31 v5 (some (V.int .i64 22)) none) h31)) fun v32 =>
 (
 bindO (fstV (still (aFieldAddr Pg 83 v1 3) h31)) fun v33 =>
 bindO (fstV (still (aSlice Pg h31 81 v33 none none) h31)) fun v34 =>
 (
 bindV (aBuiltin Pg h31 .copy [114,114] [v32,v34]) fun v35 h36=>(
 bindV (still (aFieldAddr Pg 83 v1 0) h36) fun v37 h38 =>
 bindV (aLoadV Pg h38 42 v37) fun v39 h40 =>
 bindV (aLoadV Pg h40 31 v5) fun v41 h42 =>
 ACalls Pg 69 [(V.int .u8 1),a0,v39,v41] h42 (aEnd (fun v43 h44 =>
 bindV (aStoreV Pg h44 31 v3 v43) fun _ h46 =>
 bindR (aRes Pg [(4,v3)] h46 R45) fun v=>Q (.ret v) h46) fun v h=>Q (.panic v) h))))))))))))))))):=by kernel_rfl
theorem C45 (Q:AEnd→AH→Prop) (a0 a1:V) (h:AH) (c :
 bindV (aNew Pg h 83 a1) fun v1 h2 =>
 bindV (aAlloc Pg h2 31) fun v3 h4 =>
 bindV (aAlloc Pg h4 31) fun v5 h6 =>
 bindO (fstV (still (aSlice Pg h6 31 v5 (some (V.int .i64 15)) none) h6)) fun v7 =>
 (
 bindO (fstV (still (aFieldAddr Pg 83 v1 1) h6)) fun v8 =>
 bindO (fstV (aLoadV Pg h6 32 v8)) fun v9 =>
 (
 bindO (fstV (still (aConv Pg h6 32 42 v9) h6)) fun v10 =>
 (
 ∃ v11,ACalls Pg 54 [v10,(V.int .i64 4)] h6 (pureE v11 h6)∧(
 (
 bindV (aBuiltin Pg h6 .copy [114,9] [v7,v11]) fun v12 h13=>(
 bindO (fstV (still (aSlice Pg h13 31 v5 (some (V.int .i64 19)) none) h13)) fun v14 =>
 (
 bindO (fstV (still (aFieldAddr Pg 83 v1 2) h13)) fun v15 =>
 bindO (fstV (still (aFieldAddr Pg 34 v15 0) h13)) fun v16 =>
 bindO (fstV (aLoadV Pg h13 27 v16)) fun v17 =>
 (
 bindO (fstV (still (aConv Pg h13 27 42 v17) h13)) fun v18 =>
 (
 ∃ v19,ACalls Pg 54 [v18,(V.int .i64 2)] h13 (pureE v19 h13)∧(
 (
 bindV (aBuiltin Pg h13 .copy [114,9] [v14,v19]) fun v20 h21=>(
 bindV (still (aFieldAddr Pg 83 v1 2) h21) fun v22 h23 =>
 bindV (still (aFieldAddr Pg 34 v22 1) h23) fun v24 h25 =>
 bindV (aLoadV Pg h25 5 v24) fun v26 h27 =>
 bindV (still (aIndexAddr Pg 31 v5 (V.int .i64 21)) h27) fun v28 h29 =>
 bindV (aStoreV Pg h29 5 v28 v26) fun _ h31 =>
 bindO (fstV (still (aSlice Pg h31 31 v5 (some (V.int .i64 22)) none) h31)) fun v32 =>
 (
 bindO (fstV (still (aFieldAddr Pg 83 v1 3) h31)) fun v33 =>
 bindO (fstV (still (aSlice Pg h31 81 v33 none none) h31)) fun v34 =>
 (
 bindV (aBuiltin Pg h31 .copy [114,114] [v32,v34]) fun v35 h36=>(
 bindV (still (aFieldAddr Pg 83 v1 0) h36) fun v37 h38 =>
 bindV (aLoadV Pg h38 42 v37) fun v39 h40 =>
 bindV (aLoadV Pg h40 31 v5) fun v41 h42 =>
 ACalls Pg 69 [(V.int .u8 1),a0,v39,v41] h42 (aEnd (fun v43 h44 =>
 bindV (aStoreV Pg h44 31 v3 v43) fun _ h46 =>
 bindR (aRes Pg [(4,v3)] h46 R45) fun v=>Q (.ret v) h46) fun v h=>Q (.panic v) h))))))))))))))))):ACalls Pg 45 [a0,a1] h Q :=
 acalls_of_vc okP Try.func45 (show Try.f45.body=some B45 from by kernel_rfl) K45 (by rw [← S45 Q a0 a1 h] at c;exact c)
noncomputable def B64:Code:=(Try.f64.body).getD .skip
def R64:List ResultVar:=[.tmp 6]
abbrev N64:Nat:=40
def K64:KT:=(.seq .leaf (.seq .leaf (.seq .leaf (.join (.reg [[5,9,27,31],[33,38]]) .leaf [6]) [0,1,5,7,9]) [0,1,5,7]) [0,1,5])
def Jz67 (Q:AEnd→AH→Prop) (x6:V) (h:AH):Prop:=vcAt Pg N64 B64 K64 [1,1,1,1] [] (vcRet Pg R64 Q) [(6,x6)] h
def Gz1h (Q:AEnd→AH→Prop) (x33 x38:V) (h:AH):Prop:=segAt Pg N64 B64 K64 [1,1,1,0] 4 2 [] (vcRet Pg R64 Q) [(33,x33),(38,x38)] h
def Gz1g (Q:AEnd→AH→Prop) (x5 x9 x27 x31:V) (h:AH):Prop:=segAt Pg N64 B64 K64 [1,1,1,0] 2 1 [] (vcRet Pg R64 Q) [(5,x5),(9,x9),(27,x27),(31,x31)] h
theorem Jz67_eq (Q:AEnd→AH→Prop) (x6:V) (h:AH):Jz67 Q x6 h=(
 Q (.ret x6) h):=by kernel_rfl
theorem Gz1h_eq (Q:AEnd→AH→Prop) (x33 x38:V) (h:AH):Gz1h Q x33 x38 h=(
 bindV (aPick x33 x38 (V.bool false) h) fun v31 h32 =>
 Meet (Jz67 Q v31 h32)):=by kernel_rfl
theorem Gz1g_eq (Q:AEnd→AH→Prop) (x5 x9 x27 x31:V) (h:AH):Gz1g Q x5 x9 x27 x31 h=(
 bindV (aPick x27 x31 (V.bool false) h) fun v29 h30 =>
 vcG v29 true (
 bindV (aLoadV Pg h30 31 x5) fun v33 h34 =>
 ACalls Pg 81 [v33] h34 (aEnd (fun v35 h36 =>
 bindV (still (aConv Pg h36 32 42 v35) h36) fun v37 h38 =>
 bindV (still (aBin Pg .eql 42 x9 v37 false) h38) fun v39 h40 =>
 Meet (Gz1h Q v29 v39 h40)) fun v h=>Q (.panic v) h)) (Meet (Gz1h Q v29 hole h30))):=by kernel_rfl
theorem S64 (Q:AEnd→AH→Prop) (a0 a1 a2:V) (h:AH):vc Pg N64 B64 K64 (vcRet Pg R64 Q) (initEnv 0 [a0,a1,a2]) h=(
 bindV (aNew Pg h 31 a2) fun v1 h2 =>
 bindV (still (aSlice Pg h2 31 v1 none none) h2) fun v3 h4 =>
 bindV (still (aConv Pg h4 114 9 v3) h4) fun v5 h6 =>
 ACalls Pg 41 [v5,(V.int .i64 1),(V.int .i64 2)] h6 (aEnd (fun v7 h8 =>
 bindV (still (aExtract v7 0) h8) fun v9 h10 =>
 bindV (still (aExtract v7 1) h10) fun v11 h12 =>
 bindV (still (aSlice Pg h12 31 v1 none none) h12) fun v13 h14 =>
 bindV (still (aConv Pg h14 114 9 v13) h14) fun v15 h16 =>
 ACalls Pg 41 [v15,(V.int .i64 3),(V.int .i64 4)] h16 (aEnd (fun v17 h18 =>
 bindV (still (aExtract v17 0) h18) fun v19 h20 =>
 bindV (still (aExtract v17 1) h20) fun v21 h22 =>
 bindV (still (aIndexAddr Pg 31 v1 (V.int .i64 0)) h22) fun v23 h24 =>
 bindV (aLoadV Pg h24 5 v23) fun v25 h26 =>
 bindV (still (aBin Pg .eql 5 v25 a0 false) h26) fun v27 h28 =>
 vcG v27 true (
 bindV (still (aConv Pg h28 27 42 a1) h28) fun v41 h42 =>
 bindV (still (aBin Pg .eql 42 v9 v41 false) h42) fun v43 h44 =>
 Meet (Gz1g Q v1 v19 v27 v43 h44)) (Meet (Gz1g Q v1 v19 v27 hole h28))) fun v h=>Q (.panic v) h)) fun v h=>Q (.panic v) h)):=by kernel_rfl
theorem C64 (Q:AEnd→AH→Prop) (a0 a1 a2:V) (h:AH) (c :
 bindV (aNew Pg h 31 a2) fun v1 h2 =>
 bindV (still (aSlice Pg h2 31 v1 none none) h2) fun v3 h4 =>
 bindV (still (aConv Pg h4 114 9 v3) h4) fun v5 h6 =>
 ACalls Pg 41 [v5,(V.int .i64 1),(V.int .i64 2)] h6 (aEnd (fun v7 h8 =>
 bindV (still (aExtract v7 0) h8) fun v9 h10 =>
 bindV (still (aExtract v7 1) h10) fun v11 h12 =>
 bindV (still (aSlice Pg h12 31 v1 none none) h12) fun v13 h14 =>
 bindV (still (aConv Pg h14 114 9 v13) h14) fun v15 h16 =>
 ACalls Pg 41 [v15,(V.int .i64 3),(V.int .i64 4)] h16 (aEnd (fun v17 h18 =>
 bindV (still (aExtract v17 0) h18) fun v19 h20 =>
 bindV (still (aExtract v17 1) h20) fun v21 h22 =>
 bindV (still (aIndexAddr Pg 31 v1 (V.int .i64 0)) h22) fun v23 h24 =>
 bindV (aLoadV Pg h24 5 v23) fun v25 h26 =>
 bindV (still (aBin Pg .eql 5 v25 a0 false) h26) fun v27 h28 =>
 vcG v27 true (
 bindV (still (aConv Pg h28 27 42 a1) h28) fun v41 h42 =>
 bindV (still (aBin Pg .eql 42 v9 v41 false) h42) fun v43 h44 =>
 Meet (Gz1g Q v1 v19 v27 v43 h44)) (Meet (Gz1g Q v1 v19 v27 hole h28))) fun v h=>Q (.panic v) h)) fun v h=>Q (.panic v) h)):ACalls Pg 64 [a0,a1,a2] h Q :=
 acalls_of_vc okP Try.func64 (show Try.f64.body=some B64 from by kernel_rfl) K64 (by rw [← S64 Q a0 a1 a2 h] at c;exact c)
noncomputable def B68:Code:=(Try.f68.body).getD .skip
def R68:List ResultVar:=[.tmp 2]
abbrev N68:Nat:=52
def K68:KT:=(.seq .leaf (.join (.join (.reg [[1,9,14],[1,9,14,24],[1,9,25]]) (.two (.seq .leaf .leaf [2]) .leaf) [1,26]) (.join (.seq .leaf (.one (.loop (.seq .leaf (.join (.two .leaf .leaf) (.join (.one (.seq .leaf (.join (.reg [[1,4,28,29,30,37,40],[1,28,29,30,42,46]]) (.two (.seq .leaf .leaf [2]) .leaf) [1,28,29,30,47]) [1,4,28,29,30])) .leaf [1,28,29,30]) [1,28,29,30]) [1,28,29,30,31]) [1,28,29,30])) [1,28,29,30]) (.seq .leaf .leaf [2]) [1]) [1]) [1])
def Jz6g (Q:AEnd→AH→Prop) (n:Nat) (x1 x28 x29 x30:V) (h:AH):Prop:=vcAt Pg N68 B68 K68 [1,1,0,1,0,0,1,1,1] [n] (vcRet Pg R68 Q) [(1,x1),(28,x28),(29,x29),(30,x30)] h
def Jz6f (Q:AEnd→AH→Prop) (n:Nat) (x1 x28 x29 x30 x47:V) (h:AH):Prop:=vcAt Pg N68 B68 K68 [1,1,0,1,0,0,1,1,0,0,1,1] [n] (vcRet Pg R68 Q) [(1,x1),(28,x28),(29,x29),(30,x30),(47,x47)] h
def Gz1o (Q:AEnd→AH→Prop) (n:Nat) (x1 x28 x29 x30 x42 x46:V) (h:AH):Prop:=segAt Pg N68 B68 K68 [1,1,0,1,0,0,1,1,0,0,1,0] 4 2 [n] (vcRet Pg R68 Q) [(1,x1),(28,x28),(29,x29),(30,x30),(42,x42),(46,x46)] h
def Gz1n (Q:AEnd→AH→Prop) (n:Nat) (x1 x4 x28 x29 x30 x37 x40:V) (h:AH):Prop:=segAt Pg N68 B68 K68 [1,1,0,1,0,0,1,1,0,0,1,0] 2 1 [n] (vcRet Pg R68 Q) [(1,x1),(4,x4),(28,x28),(29,x29),(30,x30),(37,x37),(40,x40)] h
def Jz6e (Q:AEnd→AH→Prop) (n:Nat) (x1 x28 x29 x30:V) (h:AH):Prop:=vcAt Pg N68 B68 K68 [1,1,0,1,0,0,1,1] [n] (vcRet Pg R68 Q) [(1,x1),(28,x28),(29,x29),(30,x30)] h
def Jz6h (Q:AEnd→AH→Prop) (x1:V) (h:AH):Prop:=vcAt Pg N68 B68 K68 [1,1,1] [] (vcRet Pg R68 Q) [(1,x1)] h
def Lz7m (Q:AEnd→AH→Prop) (n:Nat) (x1 x28 x29 x30:V) (h:AH):Prop:=loopAt Pg N68 B68 K68 [1,1,0,1,0] [] n (vcRet Pg R68 Q) [(1,x1),(28,x28),(29,x29),(30,x30)] h
def Jz6d (Q:AEnd→AH→Prop) (x1:V) (h:AH):Prop:=vcAt Pg N68 B68 K68 [1,1] [] (vcRet Pg R68 Q) [(1,x1)] h
def Jz6c (Q:AEnd→AH→Prop) (x1 x26:V) (h:AH):Prop:=vcAt Pg N68 B68 K68 [1,0,1] [] (vcRet Pg R68 Q) [(1,x1),(26,x26)] h
def Gz1m (Q:AEnd→AH→Prop) (x1 x9 x25:V) (h:AH):Prop:=segAt Pg N68 B68 K68 [1,0,0] 4 3 [] (vcRet Pg R68 Q) [(1,x1),(9,x9),(25,x25)] h
def Gz1l (Q:AEnd→AH→Prop) (x1 x9 x14 x24:V) (h:AH):Prop:=segAt Pg N68 B68 K68 [1,0,0] 3 2 [] (vcRet Pg R68 Q) [(1,x1),(9,x9),(14,x14),(24,x24)] h
def Gz1k (Q:AEnd→AH→Prop) (x1 x9 x14:V) (h:AH):Prop:=segAt Pg N68 B68 K68 [1,0,0] 2 1 [] (vcRet Pg R68 Q) [(1,x1),(9,x9),(14,x14)] h
theorem Jz6g_eq (Q:AEnd→AH→Prop) (n:Nat) (x1 x28 x29 x30:V) (h:AH):Jz6g Q n x1 x28 x29 x30 h=(
 bindV (still (aBin Pg .add 3 x30 (V.int .i64 1) true) h) fun v39 h40 =>
 Meet (Lz7m Q n x1 x28 x29 v39 h40)):=by kernel_rfl
theorem Jz6f_eq (Q:AEnd→AH→Prop) (n:Nat) (x1 x28 x29 x30 x47:V) (h:AH):Jz6f Q n x1 x28 x29 x30 x47 h=(
 vcIf x47 (
 Q (.ret (V.bool false)) h) (
 Meet (Jz6g Q n x1 x28 x29 x30 h))):=by kernel_rfl
theorem Gz1o_eq (Q:AEnd→AH→Prop) (n:Nat) (x1 x28 x29 x30 x42 x46:V) (h:AH):Gz1o Q n x1 x28 x29 x30 x42 x46 h=(
 bindV (aPick x42 (V.bool true) x46 h) fun v37 h38 =>
 Meet (Jz6f Q n x1 x28 x29 x30 v37 h38)):=by kernel_rfl
theorem Gz1n_eq (Q:AEnd→AH→Prop) (n:Nat) (x1 x4 x28 x29 x30 x37 x40:V) (h:AH):Gz1n Q n x1 x4 x28 x29 x30 x37 x40 h=(
 bindV (aPick x37 x40 (V.bool false) h) fun v35 h36 =>
 vcG v35 false (
 bindV (still (aFieldAddr Pg 36 x4 4) h36) fun v41 h42 =>
 bindV (aLoadV Pg h42 9 v41) fun v43 h44 =>
 bindV (aBuiltin Pg h44 .len [9] [v43]) fun v45 h46 =>
 bindV (still (aBin Pg .gtr 3 v45 (V.int .i64 66) true) h46) fun v47 h48 =>
 Meet (Gz1o Q n x1 x28 x29 x30 v35 v47 h48)) (Meet (Gz1o Q n x1 x28 x29 x30 v35 hole h36))):=by kernel_rfl
theorem Jz6e_eq (Q:AEnd→AH→Prop) (n:Nat) (x1 x28 x29 x30:V) (h:AH):Jz6e Q n x1 x28 x29 x30 h=(
 bindV (still (aIndexAddr Pg 127 x28 x30) h) fun v21 h22 =>
 bindV (aLoadV Pg h22 36 v21) fun v23 h24 =>
 bindV (aAlloc Pg h24 36) fun v25 h26 =>
 bindV (aStoreV Pg h26 36 v25 v23) fun _ h28 =>
 bindV (still (aFieldAddr Pg 36 v25 0) h28) fun v29 h30 =>
 bindV (aLoadV Pg h30 4 v29) fun v31 h32 =>
 bindV (still (aUn .not v31) h32) fun v33 h34 =>
 vcG v33 true (
 bindV (aLoadV Pg h34 36 v25) fun v49 h50 =>
 bindV (still (aBuild Pg 36 []) h50) fun v51 h52 =>
 bindV (still (aBin Pg .neq 36 v49 v51 false) h52) fun v53 h54 =>
 Meet (Gz1n Q n x1 v25 x28 x29 x30 v33 v53 h54)) (Meet (Gz1n Q n x1 v25 x28 x29 x30 v33 hole h34))):=by kernel_rfl
theorem Jz6h_eq (Q:AEnd→AH→Prop) (x1:V) (h:AH):Jz6h Q x1 h=(
 bindV (aLoadV Pg h 129 x1) fun v55 h56 =>
 ACalls Pg 83 [v55] h56 (aEnd (fun v57 h58 =>
 bindV (still (aBin Pg .leq 3 v57 (V.int .i64 224) true) h58) fun v59 h60 =>
 Q (.ret v59) h60) fun v h=>Q (.panic v) h)):=by kernel_rfl
theorem Lz7m_eq (Q:AEnd→AH→Prop) (n:Nat) (x1 x28 x29 x30:V) (h:AH):Lz7m Q (n + 1) x1 x28 x29 x30 h=(
 bindV (still (aBin Pg .lss 3 x30 x29 false) h) fun v19 h20 =>
 vcIf v19 (
 Meet (Jz6e Q n x1 x28 x29 x30 h20)) (
 Meet (Jz6h Q x1 h20))):=by kernel_rfl
theorem Jz6d_eq (Q:AEnd→AH→Prop) (x1:V) (h:AH):Jz6d Q x1 h=(
 bindV (still (aFieldAddr Pg 129 x1 1) h) fun v13 h14 =>
 bindV (aLoadV Pg h14 127 v13) fun v15 h16 =>
 bindV (aBuiltin Pg h16 .len [127] [v15]) fun v17 h18 =>
 ∃ n,Meet (Lz7m Q n x1 v15 v17 (V.int .i64 0) h18)):=by kernel_rfl
theorem Jz6c_eq (Q:AEnd→AH→Prop) (x1 x26:V) (h:AH):Jz6c Q x1 x26 h=(
 vcIf x26 (
 Q (.ret (V.bool false)) h) (
 Meet (Jz6d Q x1 h))):=by kernel_rfl
theorem Gz1m_eq (Q:AEnd→AH→Prop) (x1 x9 x25:V) (h:AH):Gz1m Q x1 x9 x25 h=(
 bindV (aPick x9 (V.bool true) x25 h) fun v11 h12 =>
 Meet (Jz6c Q x1 v11 h12)):=by kernel_rfl
theorem Gz1l_eq (Q:AEnd→AH→Prop) (x1 x9 x14 x24:V) (h:AH):Gz1l Q x1 x9 x14 x24 h=(
 vcG x9 false (
 bindV (aPick x14 x24 (V.bool false) h) fun v61 h62 =>
 Meet (Gz1m Q x1 x9 v61 h62)) (Meet (Gz1m Q x1 x9 hole h))):=by kernel_rfl
theorem Gz1k_eq (Q:AEnd→AH→Prop) (x1 x9 x14:V) (h:AH):Gz1k Q x1 x9 x14 h=(
 vcG x14 true (
 bindV (still (aFieldAddr Pg 129 x1 1) h) fun v63 h64 =>
 bindV (aLoadV Pg h64 127 v63) fun v65 h66 =>
 bindV (still (aFieldAddr Pg 129 x1 1) h66) fun v67 h68 =>
 bindV (aLoadV Pg h68 127 v67) fun v69 h70 =>
 bindV (aBuiltin Pg h70 .len [127] [v69]) fun v71 h72 =>
 bindV (still (aBin Pg .sub 3 v71 (V.int .i64 1) true) h72) fun v73 h74 =>
 bindV (still (aIndexAddr Pg 127 v65 v73) h74) fun v75 h76 =>
 bindV (still (aFieldAddr Pg 36 v75 0) h76) fun v77 h78 =>
 bindV (aLoadV Pg h78 4 v77) fun v79 h80 =>
 bindV (still (aUn .not v79) h80) fun v81 h82 =>
 Meet (Gz1l Q x1 x9 x14 v81 h82)) (Meet (Gz1l Q x1 x9 x14 hole h))):=by kernel_rfl
theorem S68 (Q:AEnd→AH→Prop) (a0:V) (h:AH):vc Pg N68 B68 K68 (vcRet Pg R68 Q) (initEnv 0 [a0]) h=(
 bindV (aNew Pg h 129 a0) fun v1 h2 =>
 bindV (still (aFieldAddr Pg 129 v1 1) h2) fun v3 h4 =>
 bindV (aLoadV Pg h4 127 v3) fun v5 h6 =>
 bindV (aBuiltin Pg h6 .len [127] [v5]) fun v7 h8 =>
 bindV (still (aBin Pg .gtr 3 v7 (V.int .i64 15) true) h8) fun v9 h10 =>
 vcG v9 false (
 bindV (still (aFieldAddr Pg 129 v1 1) h10) fun v83 h84 =>
 bindV (aLoadV Pg h84 127 v83) fun v85 h86 =>
 bindV (aBuiltin Pg h86 .len [127] [v85]) fun v87 h88 =>
 bindV (still (aBin Pg .gtr 3 v87 (V.int .i64 0) true) h88) fun v89 h90 =>
 Meet (Gz1k Q v1 v9 v89 h90)) (Meet (Gz1k Q v1 v9 hole h10))):=by kernel_rfl
theorem C68 (Q:AEnd→AH→Prop) (a0:V) (h:AH) (c :
 bindV (aNew Pg h 129 a0) fun v1 h2 =>
 bindV (still (aFieldAddr Pg 129 v1 1) h2) fun v3 h4 =>
 bindV (aLoadV Pg h4 127 v3) fun v5 h6 =>
 bindV (aBuiltin Pg h6 .len [127] [v5]) fun v7 h8 =>
 bindV (still (aBin Pg .gtr 3 v7 (V.int .i64 15) true) h8) fun v9 h10 =>
 vcG v9 false (
 bindV (still (aFieldAddr Pg 129 v1 1) h10) fun v83 h84 =>
 bindV (aLoadV Pg h84 127 v83) fun v85 h86 =>
 bindV (aBuiltin Pg h86 .len [127] [v85]) fun v87 h88 =>
 bindV (still (aBin Pg .gtr 3 v87 (V.int .i64 0) true) h88) fun v89 h90 =>
 Meet (Gz1k Q v1 v9 v89 h90)) (Meet (Gz1k Q v1 v9 hole h10))):ACalls Pg 68 [a0] h Q :=
 acalls_of_vc okP Try.func68 (show Try.f68.body=some B68 from by kernel_rfl) K68 (by rw [← S68 Q a0 h] at c;exact c)
noncomputable def B69:Code:=(Try.f69.body).getD .skip
def R69:List ResultVar:=[.cell 8 31]
abbrev N69:Nat:=27
def K69:KT:=(.seq .leaf (.seq .leaf (.seq (.eff [4]) (.seq (.eff [3]) (.seq (.eff [5]) (.seq .leaf .leaf [8]) [7,8]) [7,8]) [2,7,8]) [1,2,7,8]) [0,1,2,7,8])
theorem S69 (Q:AEnd→AH→Prop) (a0 a1 a2 a3:V) (h:AH):vc Pg N69 B69 K69 (vcRet Pg R69 Q) (initEnv 0 [a0,a1,a2,a3]) h=(
 bindV (aNew Pg h 31 a3) fun v1 h2 =>
 bindV (aAlloc Pg h2 31) fun v3 h4 =>
 bindV (still (aIndexAddr Pg 31 v1 (V.int .i64 0)) h4) fun v5 h6 =>
 bindV (aStoreV Pg h6 5 v5 a0) fun _ h8 =>
 bindO (fstV (still (aSlice Pg h8 31 v1 (some (V.int .i64 1)) none) h8)) fun v9 =>
 (
 bindO (fstV (still (aConv Pg h8 27 42 a1) h8)) fun v10 =>
 (
 ∃ v11,ACalls Pg 54 [v10,(V.int .i64 2)] h8 (pureE v11 h8)∧(
 (
 bindV (aBuiltin Pg h8 .copy [114,9] [v9,v11]) fun v12 h13=>(
 bindO (fstV (still (aSlice Pg h13 31 v1 (some (V.int .i64 7)) none) h13)) fun v14 =>
 (
 ∃ v15,ACalls Pg 54 [a2,(V.int .i64 8)] h13 (pureE v15 h13)∧(
 (
 bindV (aBuiltin Pg h13 .copy [114,9] [v14,v15]) fun v16 h17=>(
 bindO (fstV (still (aSlice Pg h17 31 v1 (some (V.int .i64 3)) none) h17)) fun v18 =>
 (
 bindO (fstV (aLoadV Pg h17 31 v1)) fun v19 =>
 (
 ∃ v20,ACalls Pg 81 [v19] h17 (pureE v20 h17)∧(
 (
 bindO (fstV (still (aConv Pg h17 32 42 v20) h17)) fun v21 =>
 (
 ∃ v22,ACalls Pg 54 [v21,(V.int .i64 4)] h17 (pureE v22 h17)∧(
 (
 bindV (aBuiltin Pg h17 .copy [114,9] [v18,v22]) fun v23 h24=>(
 bindV (aLoadV Pg h24 31 v1) fun v25 h26 =>
 bindV (aStoreV Pg h26 31 v3 v25) fun _ h28 =>
 bindR (aRes Pg [(8,v3)] h28 R69) fun v=>Q (.ret v) h28)))))))))))))))))):=by kernel_rfl
theorem C69 (Q:AEnd→AH→Prop) (a0 a1 a2 a3:V) (h:AH) (c :
 bindV (aNew Pg h 31 a3) fun v1 h2 =>
 bindV (aAlloc Pg h2 31) fun v3 h4 =>
 bindV (still (aIndexAddr Pg 31 v1 (V.int .i64 0)) h4) fun v5 h6 =>
 bindV (aStoreV Pg h6 5 v5 a0) fun _ h8 =>
 bindO (fstV (still (aSlice Pg h8 31 v1 (some (V.int .i64 1)) none) h8)) fun v9 =>
 (
 bindO (fstV (still (aConv Pg h8 27 42 a1) h8)) fun v10 =>
 (
 ∃ v11,ACalls Pg 54 [v10,(V.int .i64 2)] h8 (pureE v11 h8)∧(
 (
 bindV (aBuiltin Pg h8 .copy [114,9] [v9,v11]) fun v12 h13=>(
 bindO (fstV (still (aSlice Pg h13 31 v1 (some (V.int .i64 7)) none) h13)) fun v14 =>
 (
 ∃ v15,ACalls Pg 54 [a2,(V.int .i64 8)] h13 (pureE v15 h13)∧(
 (
 bindV (aBuiltin Pg h13 .copy [114,9] [v14,v15]) fun v16 h17=>(
 bindO (fstV (still (aSlice Pg h17 31 v1 (some (V.int .i64 3)) none) h17)) fun v18 =>
 (
 bindO (fstV (aLoadV Pg h17 31 v1)) fun v19 =>
 (
 ∃ v20,ACalls Pg 81 [v19] h17 (pureE v20 h17)∧(
 (
 bindO (fstV (still (aConv Pg h17 32 42 v20) h17)) fun v21 =>
 (
 ∃ v22,ACalls Pg 54 [v21,(V.int .i64 4)] h17 (pureE v22 h17)∧(
 (
 bindV (aBuiltin Pg h17 .copy [114,9] [v18,v22]) fun v23 h24=>(
 bindV (aLoadV Pg h24 31 v1) fun v25 h26 =>
 bindV (aStoreV Pg h26 31 v3 v25) fun _ h28 =>
 bindR (aRes Pg [(8,v3)] h28 R69) fun v=>Q (.ret v) h28)))))))))))))))))):ACalls Pg 69 [a0,a1,a2,a3] h Q :=
 acalls_of_vc okP Try.func69 (show Try.f69.body=some B69 from by kernel_rfl) K69 (by rw [← S69 Q a0 a1 a2 a3 h] at c;exact c)
noncomputable def B81:Code:=(Try.f81.body).getD .skip
def R81:List ResultVar:=[.tmp 2]
abbrev N81:Nat:=8
def K81:KT:=(.seq .leaf (.seq .leaf (.seq .leaf .leaf [2]) [1]) [1])
theorem S81 (Q:AEnd→AH→Prop) (a0:V) (h:AH):vc Pg N81 B81 K81 (vcRet Pg R81 Q) (initEnv 0 [a0]) h=(
 bindV (aNew Pg h 31 a0) fun v1 h2 =>
 bindV (still (aSlice Pg h2 31 v1 (some (V.int .i64 3)) (some (V.int .i64 7))) h2) fun v3 h4 =>
 bindV (aBuiltin Pg h4 .copy [114,9] [v3,(V.str [0,0,0,0])]) fun v5 h6 =>
 bindV (still (aSlice Pg h6 31 v1 none none) h6) fun v7 h8 =>
 bindV (still (aConv Pg h8 114 9 v7) h8) fun v9 h10 =>
 ACalls Pg 78 [v9] h10 (aEnd (fun v11 h12 =>
 Q (.ret v11) h12) fun v h=>Q (.panic v) h)):=by kernel_rfl
theorem C81 (Q:AEnd→AH→Prop) (a0:V) (h:AH) (c :
 bindV (aNew Pg h 31 a0) fun v1 h2 =>
 bindV (still (aSlice Pg h2 31 v1 (some (V.int .i64 3)) (some (V.int .i64 7))) h2) fun v3 h4 =>
 bindV (aBuiltin Pg h4 .copy [114,9] [v3,(V.str [0,0,0,0])]) fun v5 h6 =>
 bindV (still (aSlice Pg h6 31 v1 none none) h6) fun v7 h8 =>
 bindV (still (aConv Pg h8 114 9 v7) h8) fun v9 h10 =>
 ACalls Pg 78 [v9] h10 (aEnd (fun v11 h12 =>
 Q (.ret v11) h12) fun v h=>Q (.panic v) h)):ACalls Pg 81 [a0] h Q :=
 acalls_of_vc okP Try.func81 (show Try.f81.body=some B81 from by kernel_rfl) K81 (by rw [← S81 Q a0 h] at c;exact c)
noncomputable def B83:Code:=(Try.f83.body).getD .skip
def R83:List ResultVar:=[.tmp 2]
abbrev N83:Nat:=25
def K83:KT:=(.seq .leaf (.seq .leaf (.join (.seq .leaf (.one (.loop (.seq .leaf (.join (.two .leaf .leaf) (.join (.one (.seq .leaf (.seq .leaf (.seq .leaf (.two .leaf .leaf) [3,5,7,8,9,16]) [3,5,7,8,9]) [3,5,7,8,9])) .leaf [3,7,8,9]) [3,7,8,9]) [3,7,8,9,10]) [3,7,8,9])) [3,7,8,9]) (.seq .leaf .leaf [2]) [3]) [1,3]) [1])
def Jz6x (Q:AEnd→AH→Prop) (n:Nat) (x3 x7 x8 x9:V) (h:AH):Prop:=vcAt Pg N83 B83 K83 [1,1,0,1,0,0,1,1,1] [n] (vcRet Pg R83 Q) [(3,x3),(7,x7),(8,x8),(9,x9)] h
def Jz6w (Q:AEnd→AH→Prop) (n:Nat) (x3 x7 x8 x9:V) (h:AH):Prop:=vcAt Pg N83 B83 K83 [1,1,0,1,0,0,1,1] [n] (vcRet Pg R83 Q) [(3,x3),(7,x7),(8,x8),(9,x9)] h
def Jz6y (Q:AEnd→AH→Prop) (x3:V) (h:AH):Prop:=vcAt Pg N83 B83 K83 [1,1,1] [] (vcRet Pg R83 Q) [(3,x3)] h
def Lz7o (Q:AEnd→AH→Prop) (n:Nat) (x3 x7 x8 x9:V) (h:AH):Prop:=loopAt Pg N83 B83 K83 [1,1,0,1,0] [] n (vcRet Pg R83 Q) [(3,x3),(7,x7),(8,x8),(9,x9)] h
theorem Jz6x_eq (Q:AEnd→AH→Prop) (n:Nat) (x3 x7 x8 x9:V) (h:AH):Jz6x Q n x3 x7 x8 x9 h=(
 bindV (still (aBin Pg .add 3 x9 (V.int .i64 1) true) h) fun v35 h36 =>
 Meet (Lz7o Q n x3 x7 x8 v35 h36)):=by kernel_rfl
theorem Jz6w_eq (Q:AEnd→AH→Prop) (n:Nat) (x3 x7 x8 x9:V) (h:AH):Jz6w Q n x3 x7 x8 x9 h=(
 bindV (still (aIndexAddr Pg 127 x7 x9) h) fun v11 h12 =>
 bindV (aLoadV Pg h12 36 v11) fun v13 h14 =>
 bindV (aAlloc Pg h14 36) fun v15 h16 =>
 bindV (aStoreV Pg h16 36 v15 v13) fun _ h18 =>
 bindV (still (aBin Pg .add 3 x3 (V.int .i64 1) true) h18) fun v19 h20 =>
 bindV (still (aFieldAddr Pg 36 v15 0) h20) fun v21 h22 =>
 bindV (aLoadV Pg h22 4 v21) fun v23 h24 =>
 vcIf v23 (
 bindV (still (aFieldAddr Pg 36 v15 4) h24) fun v25 h26 =>
 bindV (aLoadV Pg h26 9 v25) fun v27 h28 =>
 bindV (aBuiltin Pg h28 .len [9] [v27]) fun v29 h30 =>
 bindV (still (aBin Pg .add 3 (V.int .i64 10) v29 true) h30) fun v31 h32 =>
 bindV (still (aBin Pg .add 3 v19 v31 false) h32) fun v33 h34 =>
 Meet (Jz6x Q n v33 x7 x8 x9 h34)) (
 Meet (Jz6x Q n v19 x7 x8 x9 h24))):=by kernel_rfl
theorem Jz6y_eq (Q:AEnd→AH→Prop) (x3:V) (h:AH):Jz6y Q x3 h=(
 Q (.ret x3) h):=by kernel_rfl
theorem Lz7o_eq (Q:AEnd→AH→Prop) (n:Nat) (x3 x7 x8 x9:V) (h:AH):Lz7o Q (n + 1) x3 x7 x8 x9 h=(
 bindV (still (aBin Pg .lss 3 x9 x8 false) h) fun v9 h10 =>
 vcIf v9 (
 Meet (Jz6w Q n x3 x7 x8 x9 h10)) (
 Meet (Jz6y Q x3 h10))):=by kernel_rfl
theorem S83 (Q:AEnd→AH→Prop) (a0:V) (h:AH):vc Pg N83 B83 K83 (vcRet Pg R83 Q) (initEnv 0 [a0]) h=(
 bindV (aNew Pg h 129 a0) fun v1 h2 =>
 bindV (still (aFieldAddr Pg 129 v1 1) h2) fun v3 h4 =>
 bindV (aLoadV Pg h4 127 v3) fun v5 h6 =>
 bindV (aBuiltin Pg h6 .len [127] [v5]) fun v7 h8 =>
 ∃ n,Meet (Lz7o Q n (V.int .i64 16) v5 v7 (V.int .i64 0) h8)):=by kernel_rfl
theorem C83 (Q:AEnd→AH→Prop) (a0:V) (h:AH) (c :
 bindV (aNew Pg h 129 a0) fun v1 h2 =>
 bindV (still (aFieldAddr Pg 129 v1 1) h2) fun v3 h4 =>
 bindV (aLoadV Pg h4 127 v3) fun v5 h6 =>
 bindV (aBuiltin Pg h6 .len [127] [v5]) fun v7 h8 =>
 ∃ n,Meet (Lz7o Q n (V.int .i64 16) v5 v7 (V.int .i64 0) h8)):ACalls Pg 83 [a0] h Q :=
 acalls_of_vc okP Try.func83 (show Try.f83.body=some B83 from by kernel_rfl) K83 (by rw [← S83 Q a0 h] at c;exact c)
end Go.Proofs.Ytdfgfbammkojoaa.Sh
namespace Go.Proofs.Ytdfgfbammkojoaa.Sh
open Go Go.Ab Go.RowKit
open Go.Proofs.Ytdfgfbammkojoaa.Ru (Pg okP)
set_option maxRecDepth 100000
noncomputable def B41:Code:=(Try.f41.body).getD .skip
def R41:List ResultVar:=[.tmp 6,.tmp 7]
abbrev N41:Nat:=50
def K41:KT:=(.seq .leaf (.join (.join (.reg [[0,1,2,12,14],[0,1,2,16,18],[0,1,2,20,24],[0,1,2,26,32]]) (.two (.seq .leaf .leaf [6,7]) .leaf) [0,1,2,33]) (.seq .leaf (.join (.seq .leaf (.one (.loop (.join (.seq .leaf (.two .leaf .leaf) [0,1,8,9,37]) (.join (.one .leaf) .leaf [0,1,8,9]) [0,1,8,9]) [0,1,8,9])) [0,1,8,9]) (.seq .leaf .leaf [6,7]) [8]) [0,1,2,8]) [0,1,2]) [0,1,2])
def Jz4q (Q:AEnd→AH→Prop) (n:Nat) (x0 x1 x8 x9:V) (h:AH):Prop:=vcAt Pg N41 B41 K41 [1,1,1,0,1,0,0,1,1] [n] (vcRet Pg R41 Q) [(0,x0),(1,x1),(8,x8),(9,x9)] h
def Jz4p (Q:AEnd→AH→Prop) (n:Nat) (x0 x1 x8 x9:V) (h:AH):Prop:=vcAt Pg N41 B41 K41 [1,1,1,0,1,0,0,1] [n] (vcRet Pg R41 Q) [(0,x0),(1,x1),(8,x8),(9,x9)] h
def Jz4r (Q:AEnd→AH→Prop) (x8:V) (h:AH):Prop:=vcAt Pg N41 B41 K41 [1,1,1,1] [] (vcRet Pg R41 Q) [(8,x8)] h
def Lz7g (Q:AEnd→AH→Prop) (n:Nat) (x0 x1 x8 x9:V) (h:AH):Prop:=loopAt Pg N41 B41 K41 [1,1,1,0,1,0] [] n (vcRet Pg R41 Q) [(0,x0),(1,x1),(8,x8),(9,x9)] h
def Jz4o (Q:AEnd→AH→Prop) (x0 x1 x2:V) (h:AH):Prop:=vcAt Pg N41 B41 K41 [1,1] [] (vcRet Pg R41 Q) [(0,x0),(1,x1),(2,x2)] h
def Jz4n (Q:AEnd→AH→Prop) (x0 x1 x2 x33:V) (h:AH):Prop:=vcAt Pg N41 B41 K41 [1,0,1] [] (vcRet Pg R41 Q) [(0,x0),(1,x1),(2,x2),(33,x33)] h
def Gzv (Q:AEnd→AH→Prop) (x0 x1 x2 x26 x32:V) (h:AH):Prop:=segAt Pg N41 B41 K41 [1,0,0] 8 4 [] (vcRet Pg R41 Q) [(0,x0),(1,x1),(2,x2),(26,x26),(32,x32)] h
def Gzu (Q:AEnd→AH→Prop) (x0 x1 x2 x20 x24:V) (h:AH):Prop:=segAt Pg N41 B41 K41 [1,0,0] 6 3 [] (vcRet Pg R41 Q) [(0,x0),(1,x1),(2,x2),(20,x20),(24,x24)] h
def Gzt (Q:AEnd→AH→Prop) (x0 x1 x2 x16 x18:V) (h:AH):Prop:=segAt Pg N41 B41 K41 [1,0,0] 4 2 [] (vcRet Pg R41 Q) [(0,x0),(1,x1),(2,x2),(16,x16),(18,x18)] h
def Gzs (Q:AEnd→AH→Prop) (x0 x1 x2 x12 x14:V) (h:AH):Prop:=segAt Pg N41 B41 K41 [1,0,0] 2 1 [] (vcRet Pg R41 Q) [(0,x0),(1,x1),(2,x2),(12,x12),(14,x14)] h
theorem Jz4q_eq (Q:AEnd→AH→Prop) (n:Nat) (x0 x1 x8 x9:V) (h:AH):Jz4q Q n x0 x1 x8 x9 h=(
 bindV (still (aBin Pg .sub 3 x9 (V.int .i64 1) true) h) fun v25 h26 =>
 Meet (Lz7g Q n x0 x1 x8 v25 h26)):=by kernel_rfl
theorem Jz4p_eq (Q:AEnd→AH→Prop) (n:Nat) (x0 x1 x8 x9:V) (h:AH):Jz4p Q n x0 x1 x8 x9 h=(
 bindV (still (aBin Pg .shl 42 x8 (V.int .u64 8) true) h) fun v15 h16 =>
 bindV (still (aBin Pg .add 3 x1 x9 false) h16) fun v17 h18 =>
 bindV (still (aIndex Pg 9 x0 v17) h18) fun v19 h20 =>
 bindV (still (aConv Pg h20 5 42 v19) h20) fun v21 h22 =>
 bindV (still (aBin Pg .or 42 v15 v21 false) h22) fun v23 h24 =>
 Meet (Jz4q Q n x0 x1 v23 x9 h24)):=by kernel_rfl
theorem Jz4r_eq (Q:AEnd→AH→Prop) (x8:V) (h:AH):Jz4r Q x8 h=(
 Q (.ret (V.tup [x8,(V.bool true)])) h):=by kernel_rfl
theorem Lz7g_eq (Q:AEnd→AH→Prop) (n:Nat) (x0 x1 x8 x9:V) (h:AH):Lz7g Q (n + 1) x0 x1 x8 x9 h=(
 bindV (still (aBin Pg .geq 3 x9 (V.int .i64 0) true) h) fun v13 h14 =>
 vcIf v13 (
 Meet (Jz4p Q n x0 x1 x8 x9 h14)) (
 Meet (Jz4r Q x8 h14))):=by kernel_rfl
theorem Jz4o_eq (Q:AEnd→AH→Prop) (x0 x1 x2:V) (h:AH):Jz4o Q x0 x1 x2 h=(
 bindV (still (aBin Pg .sub 3 x2 (V.int .i64 1) true) h) fun v11 h12 =>
 ∃ n,Meet (Lz7g Q n x0 x1 (V.int .u64 0) v11 h12)):=by kernel_rfl
theorem Jz4n_eq (Q:AEnd→AH→Prop) (x0 x1 x2 x33:V) (h:AH):Jz4n Q x0 x1 x2 x33 h=(
 vcIf x33 (
 Q (.ret (V.tup [(V.int .u64 0),(V.bool false)])) h) (
 Meet (Jz4o Q x0 x1 x2 h))):=by kernel_rfl
theorem Gzv_eq (Q:AEnd→AH→Prop) (x0 x1 x2 x26 x32:V) (h:AH):Gzv Q x0 x1 x2 x26 x32 h=(
 bindV (aPick x26 (V.bool true) x32 h) fun v9 h10 =>
 Meet (Jz4n Q x0 x1 x2 v9 h10)):=by kernel_rfl
theorem Gzu_eq (Q:AEnd→AH→Prop) (x0 x1 x2 x20 x24:V) (h:AH):Gzu Q x0 x1 x2 x20 x24 h=(
 bindV (aPick x20 (V.bool true) x24 h) fun v7 h8 =>
 vcG v7 false (
 bindV (aBuiltin Pg h8 .len [9] [x0]) fun v27 h28 =>
 bindV (still (aBin Pg .sub 3 v27 x1 false) h28) fun v29 h30 =>
 bindV (still (aBin Pg .gtr 3 x2 v29 false) h30) fun v31 h32 =>
 Meet (Gzv Q x0 x1 x2 v7 v31 h32)) (Meet (Gzv Q x0 x1 x2 v7 hole h8))):=by kernel_rfl
theorem Gzt_eq (Q:AEnd→AH→Prop) (x0 x1 x2 x16 x18:V) (h:AH):Gzt Q x0 x1 x2 x16 x18 h=(
 bindV (aPick x16 (V.bool true) x18 h) fun v5 h6 =>
 vcG v5 false (
 bindV (aBuiltin Pg h6 .len [9] [x0]) fun v33 h34 =>
 bindV (still (aBin Pg .gtr 3 x1 v33 false) h34) fun v35 h36 =>
 Meet (Gzu Q x0 x1 x2 v5 v35 h36)) (Meet (Gzu Q x0 x1 x2 v5 hole h6))):=by kernel_rfl
theorem Gzs_eq (Q:AEnd→AH→Prop) (x0 x1 x2 x12 x14:V) (h:AH):Gzs Q x0 x1 x2 x12 x14 h=(
 bindV (aPick x12 (V.bool true) x14 h) fun v3 h4 =>
 vcG v3 false (
 bindV (still (aBin Pg .lss 3 x1 (V.int .i64 0) true) h4) fun v37 h38 =>
 Meet (Gzt Q x0 x1 x2 v3 v37 h38)) (Meet (Gzt Q x0 x1 x2 v3 hole h4))):=by kernel_rfl
theorem S41 (Q:AEnd→AH→Prop) (a0 a1 a2:V) (h:AH):vc Pg N41 B41 K41 (vcRet Pg R41 Q) (initEnv 0 [a0,a1,a2]) h=(
 bindV (still (aBin Pg .lss 3 a2 (V.int .i64 0) true) h) fun v1 h2 =>
 vcG v1 false (
 bindV (still (aBin Pg .gtr 3 a2 (V.int .i64 8) true) h2) fun v39 h40 =>
 Meet (Gzs Q a0 a1 a2 v1 v39 h40)) (Meet (Gzs Q a0 a1 a2 v1 hole h2))):=by kernel_rfl
theorem C41 (Q:AEnd→AH→Prop) (a0 a1 a2:V) (h:AH) (c :
 bindV (still (aBin Pg .lss 3 a2 (V.int .i64 0) true) h) fun v1 h2 =>
 vcG v1 false (
 bindV (still (aBin Pg .gtr 3 a2 (V.int .i64 8) true) h2) fun v39 h40 =>
 Meet (Gzs Q a0 a1 a2 v1 v39 h40)) (Meet (Gzs Q a0 a1 a2 v1 hole h2))):ACalls Pg 41 [a0,a1,a2] h Q :=
 acalls_of_vc okP Try.func41 (show Try.f41.body=some B41 from by kernel_rfl) K41 (by rw [← S41 Q a0 a1 a2 h] at c;exact c)
noncomputable def B54:Code:=(Try.f54.body).getD .skip
def R54:List ResultVar:=[.tmp 4]
abbrev N54:Nat:=31
noncomputable def B78:Code:=(Try.f78.body).getD .skip
def R78:List ResultVar:=[.tmp 2]
abbrev N78:Nat:=5
def K78:KT:=(.seq .leaf (.seq .leaf .leaf [2]) [0])
theorem S78 (Q:AEnd→AH→Prop) (a0:V) (h:AH):vc Pg N78 B78 K78 (vcRet Pg R78 Q) (initEnv 0 [a0]) h=(
 ACalls Pg 87 [(V.int .u32 0),a0] h (aEnd (fun v1 h2 =>
 Q (.ret v1) h2) fun v h=>Q (.panic v) h)):=by kernel_rfl
theorem C78 (Q:AEnd→AH→Prop) (a0:V) (h:AH) (c :
 ACalls Pg 87 [(V.int .u32 0),a0] h (aEnd (fun v1 h2 =>
 Q (.ret v1) h2) fun v h=>Q (.panic v) h)):ACalls Pg 78 [a0] h Q :=
 acalls_of_vc okP Try.func78 (show Try.f78.body=some B78 from by kernel_rfl) K78 (by rw [← S78 Q a0 h] at c;exact c)
end Go.Proofs.Ytdfgfbammkojoaa.Sh
