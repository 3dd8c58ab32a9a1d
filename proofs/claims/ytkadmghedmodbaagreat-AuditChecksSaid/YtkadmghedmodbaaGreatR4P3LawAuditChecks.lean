import Derived.Test.YtkadmghedmodbaaGreatR4P3Ab
import Derived.Test.YtkadmghedmodbaaGreatRows
import Derived.Test.YtkadmghedmodbaaGreatR4P3Fm6
import Derived.Test.YtkadmghedmodbaaGreatR4P3Frg
import Derived.WalkKit
import Derived.ProofKit
import Derived.OpenShut
import Derived.ShutString
import Derived.ChangeOld
import Derived.Below
import Derived.Test.YtkadmghedmodbaaGreatR4P3Base
import Derived.Test.YtkadmghedmodbaaGreatR4P3Walk
import Derived.Test.YtkadmghedmodbaaGreatR4P3Bd3
import Derived.Test.YtkadmghedmodbaaGreatR4P3Fi
import Derived.Test.YtkadmghedmodbaaGreatR4P3BNew
import Derived.Test.YtkadmghedmodbaaGreatR4P3Au3
import Derived.Test.YtkadmghedmodbaaGreatR4P3Iq
namespace Go.Proofs.YtkadmghedmodbaaGreat.auditChecks
open Go.ChangeShapes Go.WideShapes Go.ChangeAt Go.RowKit
set_option linter.unusedVariables false
theorem own:ownKnob Tryz.prog.godebug=none:=by kernel_rfl
theorem laidOut:laidOutB Tryz.prog=true:=by kernel_rfl
theorem walk (a0:Option Addr) (len0 cap0:Nat) (z0:List Int) (a1:Cfg) (a2:Option Addr) (len2 cap2:Nat) (z2:List TL) (a3:Option Addr) (len3 cap3:Nat) (z3:List Evt) (w:World) (w0:Go.E.RdT Go.E.encI 1 [Go.E.blocks w] a0 len0 cap0 z0) (w2:Go.E.RdT encTL 1 [Go.E.blocks w] a2 len2 cap2 z2) (k2:∀z∈z2,TL.Ok [Go.E.blocks w] z) (w3:Go.E.RdT encEvt 7 [Go.E.blocks w] a3 len3 cap3 z3):
    Calls Tryz.prog 3 #[.slice a0 len0 cap0, .agg (encCfg a1).toArray, .slice a2 len2 cap2, .slice a3 len3 cap3] w fun e w'=>e= .returned (.bool true)/\Below w.heap.size w w':=by
  refine (l31_achk w w (Go.E.blocks w) [] a0 len0 cap0 z0 a1 a2 len2 cap2 z2 a3 len3 cap3 z3 w0 w2 k2 w3 (Go.E.sat_start w)).mono fun e w' h=>?_
  exact ⟨h.1,Go.E.below_of_sat h.2 (fun p hp=>by simpa using hp)⟩
set_option maxRecDepth 100000 in
theorem lifted (os:Os) (started:os.Started) (H:Type) (enc:TypeId×Value->H):
    ReturnsInHanded {} Tryz.checked os 3 .any (Rows.auditChecksSpec.pre6 enc Tryz.prog Tryz.f3 Rows.auditChecksRow.domain false) (Rows.auditChecksSpec.post enc Tryz.prog Tryz.f3 false true false false):=by
  refine returnsInHanded_of_change (C:=Tryz.checked) own started (by kernel_rfl) Tryz.func3
    (ChangeSpec.witness6 (enc:=enc) (C:=Tryz.checked) false ⟨#[],#[.slice none 0 0, .agg #[.int .i64 0, .int .i64 0, .int .i64 0, .int .i64 0, .int .i64 0, .int .i64 0, .int .i64 0, .int .i64 0], .slice none 0 0, .slice none 0 0],[]⟩ 8 (by kernel_rfl) (by kernel_rfl) (by kernel_rfl) (by kernel_rfl)) ?_
  intro W base args ds gs before hval0 hW hcnd _
  have hval:∀(j:Nat) t v,Tryz.f3.params[j]?=some t->args[j]?=some v->Value.okWide Tryz.prog W .any base t v:=hval0
  have hW':=hW
  obtain ⟨p,q,hA0,hV,rfl,hfz,hnd⟩:=hW
  have hA:DataW.TrodAll enc Tryz.prog W 0 (fun _=>true) true Tryz.f3.params.toList args.toList ds p:=hA0
  rw [Tryz.params3] at hA hval
  obtain ⟨v0,vs0,d0,ds0,p0,q0,hargs,rfl,rfl,h0,r0⟩:=trodAll_cons hA
  obtain ⟨v1,vs1,d1,ds1,p1,q1,rfl,rfl,rfl,h1,r1⟩:=trodAll_cons r0
  obtain ⟨v2,vs2,d2,ds2,p2,q2,rfl,rfl,rfl,h2,r2⟩:=trodAll_cons r1
  obtain ⟨v3,vs3,d3,ds3,p3,q3,rfl,rfl,rfl,h3,r3⟩:=trodAll_cons r2
  obtain ⟨rfl,rfl,rfl⟩:=trodAll_nil r3
  obtain rfl:args=#[v0,v1,v2,v3]:=by cases args;simp_all
  obtain ⟨rfl,rfl⟩:=trodVars_none hV
  obtain ⟨a0,len0,cap0,rfl⟩:=okWide_slice Tryz.underlying22 (hval 0 22 v0 rfl rfl)
  have k0:=h0
  have lt0:∀x∈p0,x.block<W.heap.size:=by obtain ⟨m,hm⟩:=k0;exact DataW.trod_lt m _ _ _ hm
  obtain ⟨z0,w0⟩:∃l,Go.E.RdT Go.E.encI 1 [Go.E.blocks W] a0 len0 cap0 l:=by
    obtain ⟨fuel,hf⟩:=h0
    obtain ⟨a,m,k,l,hcs,hR⟩:=Go.E.ints_row Tryz.underlying22 Tryz.underlying3 (by kernel_rfl) hf
    simp [Value.cells] at hcs
    obtain ⟨rfl,rfl,rfl⟩:=hcs
    exact ⟨l,hR⟩
  obtain ⟨cs1,rfl,_⟩:=okWide_struct Tryz.underlying24 (hval 1 24 v1 rfl rfl)
  have k1:=h1
  have lt1:∀x∈p1,x.block<W.heap.size:=by obtain ⟨m,hm⟩:=k1;exact DataW.trod_lt m _ _ _ hm
  obtain ⟨a1,ha1⟩:∃z:Cfg,cs1=(encCfg z).toArray:=by
    obtain ⟨fuel,hf⟩:=h1
    obtain ⟨z,hz,_⟩:=open_Cfg hf
    exact ⟨z,by rw [<-hz];simp [Value.cells]⟩
  subst ha1
  obtain ⟨a2,len2,cap2,rfl⟩:=okWide_slice Tryz.underlying25 (hval 2 25 v2 rfl rfl)
  have k2:=h2
  have lt2:∀x∈p2,x.block<W.heap.size:=by obtain ⟨m,hm⟩:=k2;exact DataW.trod_lt m _ _ _ hm
  obtain ⟨z2,w2,x2⟩:∃l,Go.E.RdT encTL 1 [Go.E.blocks W] a2 len2 cap2 l/\∀z∈l,TL.Ok [Go.E.blocks W] z:=by
    obtain ⟨fuel,hf⟩:=h2
    obtain ⟨a,m,k,l,hcs,hR,hQ⟩:=Go.E.structs_row (en:=encTL) (sz:=1) (fun _=>rfl) (by decide) Tryz.underlying25 (by kernel_rfl) (fun n cs y h=>open_TL h) hf
    simp [Value.cells] at hcs
    obtain ⟨rfl,rfl,rfl⟩:=hcs
    exact ⟨l,hR,hQ⟩
  obtain ⟨a3,len3,cap3,rfl⟩:=okWide_slice Tryz.underlying26 (hval 3 26 v3 rfl rfl)
  have k3:=h3
  have lt3:∀x∈p3,x.block<W.heap.size:=by obtain ⟨m,hm⟩:=k3;exact DataW.trod_lt m _ _ _ hm
  obtain ⟨z3,w3⟩:∃l,Go.E.RdT encEvt 7 [Go.E.blocks W] a3 len3 cap3 l:=by
    obtain ⟨fuel,hf⟩:=h3
    obtain ⟨a,m,k,l,hcs,hR,hQ⟩:=Go.E.structs_row (en:=encEvt) (sz:=7) (fun _=>rfl) (by decide) Tryz.underlying26 (by kernel_rfl) (fun n cs y h=>open_Evt h) hf
    simp [Value.cells] at hcs
    obtain ⟨rfl,rfl,rfl⟩:=hcs
    exact ⟨l,hR⟩
  clear hA0 hval0
  refine (walk a0 len0 cap0 z0 a1 a2 len2 cap2 z2 a3 len3 cap3 z3 W w0 w2 x2 w3).mono fun e W' ⟨he,bel⟩=>?_
  subst he
  exact ⟨_,rfl,_,_,_,[],_,[],hW',trodAll_mk1 (shut_bool Tryz.underlying4 _),(trodAll_cons_mk (Below.trod laidOut (by kernel_rfl) (of_decide_eq_true (by kernel_rfl)) k0 bel lt0) (trodAll_cons_mk (Below.trod laidOut (by kernel_rfl) (of_decide_eq_true (by kernel_rfl)) k1 bel lt1) (trodAll_cons_mk (Below.trod laidOut (by kernel_rfl) (of_decide_eq_true (by kernel_rfl)) k2 bel lt2) (trodAll_cons_mk (Below.trod laidOut (by kernel_rfl) (of_decide_eq_true (by kernel_rfl)) k3 bel lt3) trodAll_mk0)))),rfl,bel.frame _,fun h=>by cases h⟩
theorem over:Rows.auditChecksRow.holds Tryz.pinned (OpenSpec.ofChange Rows.auditChecksSpec):=
  OpenClaim.holds_of_wide 3 Tryz.f3 rfl rfl rfl rfl rfl rfl rfl ⟨rfl,rfl,rfl,rfl,rfl⟩ rfl rfl rfl rfl rfl (by kernel_rfl) Tryz.func3 (by kernel_rfl)
    (of_decide_eq_true (by kernel_rfl)) (by unfold Func.isWrapper;first|(rw [if_pos (by decide+kernel)];kernel_rfl)|(rw [if_neg (by decide+kernel)];exact ⟨rfl,rfl⟩))
    (fun os started H enc _=>lifted os started H enc)
theorem proved:Rows.AuditChecksSaid:=over
end Go.Proofs.YtkadmghedmodbaaGreat.auditChecks
