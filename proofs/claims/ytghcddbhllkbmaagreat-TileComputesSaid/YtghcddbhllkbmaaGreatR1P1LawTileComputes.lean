import Derived.Test.YtghcddbhllkbmaaGreatR1P1Ab
import Derived.Test.YtghcddbhllkbmaaGreatRows
import Derived.Test.YtghcddbhllkbmaaGreatR1P1La
import Derived.Test.YtghcddbhllkbmaaGreatR1P1Tc
import Derived.WalkKit
import Derived.ProofKit
import Derived.OpenShut
import Derived.ShutString
import Derived.ChangeOld
import Derived.Below
import Derived.Test.YtghcddbhllkbmaaGreatR1P1Walk
import Derived.Test.YtghcddbhllkbmaaGreatR1P1Base
namespace Go.Proofs.YtghcddbhllkbmaaGreat.tileComputes
open Go.ChangeShapes Go.WideShapes Go.ChangeAt Go.RowKit
set_option linter.unusedVariables false
theorem own:ownKnob Tryz.prog.godebug=none:=by kernel_rfl
theorem laidOut:laidOutB Tryz.prog=true:=by kernel_rfl
theorem walk (a0:Option Addr) (len0 cap0:Nat) (z0:List Int) (a1:Int) (a2:Rct) (w:World) (w0:Go.E.RdT Go.E.encI 1 [Go.E.blocks w] a0 len0 cap0 z0) (w1:(Lit.int .i64 a1).wf=true):
    Calls Tryz.prog 4 #[.slice a0 len0 cap0, .int .i64 a1, .agg (encRct a2).toArray] w fun e w'=>e= .returned (.bool true)/\Below w.heap.size w w':=by
  refine (l21_computes w w (Go.E.blocks w) [] a0 len0 cap0 z0 a1 a2 w0 (bounds_i64 w1) (Go.E.sat_start w)).mono fun e w' h=>?_
  exact ⟨h.1,Go.E.below_of_sat h.2 (fun p hp=>by simpa using hp)⟩
set_option maxRecDepth 100000 in
theorem lifted (os:Os) (started:os.Started) (H:Type) (enc:TypeId×Value->H):
    ReturnsInHanded {} Tryz.checked os 4 .any (Rows.tileComputesSpec.pre6 enc Tryz.prog Tryz.f4 Rows.tileComputesRow.domain false) (Rows.tileComputesSpec.post enc Tryz.prog Tryz.f4 false true false false):=by
  refine returnsInHanded_of_change (C:=Tryz.checked) own started (by kernel_rfl) Tryz.func4
    (ChangeSpec.witness6 (enc:=enc) (C:=Tryz.checked) false ⟨#[],#[.slice none 0 0, .int .i64 0, .agg #[.int .i64 0, .int .i64 0, .int .i64 0, .int .i64 0]],[]⟩ 8 (by kernel_rfl) (by kernel_rfl) (by kernel_rfl) (by kernel_rfl)) ?_
  intro W base args ds gs before hval0 hW hcnd _
  have hval:∀(j:Nat) t v,Tryz.f4.params[j]?=some t->args[j]?=some v->Value.okWide Tryz.prog W .any base t v:=hval0
  have hW':=hW
  obtain ⟨p,q,hA0,hV,rfl,hfz,hnd⟩:=hW
  have hA:DataW.TrodAll enc Tryz.prog W 0 (fun _=>true) true Tryz.f4.params.toList args.toList ds p:=hA0
  rw [Tryz.params4] at hA hval
  obtain ⟨v0,vs0,d0,ds0,p0,q0,hargs,rfl,rfl,h0,r0⟩:=trodAll_cons hA
  obtain ⟨v1,vs1,d1,ds1,p1,q1,rfl,rfl,rfl,h1,r1⟩:=trodAll_cons r0
  obtain ⟨v2,vs2,d2,ds2,p2,q2,rfl,rfl,rfl,h2,r2⟩:=trodAll_cons r1
  obtain ⟨rfl,rfl,rfl⟩:=trodAll_nil r2
  obtain rfl:args=#[v0,v1,v2]:=by cases args;simp_all
  obtain ⟨rfl,rfl⟩:=trodVars_none hV
  obtain ⟨a0,len0,cap0,rfl⟩:=okWide_slice Tryz.underlying22 (hval 0 22 v0 rfl rfl)
  have k0:=h0
  have lt0:∀x∈p0,x.block<W.heap.size:=by obtain ⟨m,hm⟩:=k0;exact DataW.trod_lt m _ _ _ hm
  obtain ⟨z0,w0⟩:∃l,Go.E.RdT Go.E.encI 1 [Go.E.blocks W] a0 len0 cap0 l:=by
    obtain ⟨fuel,hf⟩:=h0
    obtain ⟨a,m,k,l,hcs,hR⟩:=Go.E.ints_row Tryz.underlying22 Tryz.underlying3 (by kernel_rfl) hf
    simp [Value.cells] at hcs
    obtain ⟨rfl,rfl,rfl⟩:=hcs
    exact ⟨l,hR⟩
  obtain ⟨a1,rfl,rfl,rfl,w1⟩:=open_int Tryz.underlying3 (hval 1 3 v1 rfl rfl) h1
  obtain ⟨cs2,rfl,_⟩:=okWide_struct Tryz.underlying45 (hval 2 45 v2 rfl rfl)
  have k2:=h2
  have lt2:∀x∈p2,x.block<W.heap.size:=by obtain ⟨m,hm⟩:=k2;exact DataW.trod_lt m _ _ _ hm
  obtain ⟨a2,ha2⟩:∃z:Rct,cs2=(encRct z).toArray:=by
    obtain ⟨fuel,hf⟩:=h2
    obtain ⟨z,hz,_⟩:=open_Rct hf
    exact ⟨z,by rw [<-hz];simp [Value.cells]⟩
  subst ha2
  clear hA0 hval0
  refine (walk a0 len0 cap0 z0 a1 a2 W w0 w1).mono fun e W' ⟨he,bel⟩=>?_
  subst he
  exact ⟨_,rfl,_,_,_,[],_,[],hW',trodAll_mk1 (shut_bool Tryz.underlying4 _),(trodAll_cons_mk (Below.trod laidOut (by kernel_rfl) (of_decide_eq_true (by kernel_rfl)) k0 bel lt0) (trodAll_cons_mk (shut_int Tryz.underlying3 w1) (trodAll_cons_mk (Below.trod laidOut (by kernel_rfl) (of_decide_eq_true (by kernel_rfl)) k2 bel lt2) trodAll_mk0))),rfl,bel.frame _,fun h=>by cases h⟩
theorem over:Rows.tileComputesRow.holds Tryz.pinned (OpenSpec.ofChange Rows.tileComputesSpec):=
  OpenClaim.holds_of_wide 4 Tryz.f4 rfl rfl rfl rfl rfl rfl rfl ⟨rfl,rfl,rfl,rfl,rfl⟩ rfl rfl rfl rfl rfl (by kernel_rfl) Tryz.func4 (by kernel_rfl)
    (of_decide_eq_true (by kernel_rfl)) (by unfold Func.isWrapper;first|(rw [if_pos (by decide+kernel)];kernel_rfl)|(rw [if_neg (by decide+kernel)];exact ⟨rfl,rfl⟩))
    (fun os started H enc _=>lifted os started H enc)
theorem proved:Rows.TileComputesSaid:=over
end Go.Proofs.YtghcddbhllkbmaaGreat.tileComputes
