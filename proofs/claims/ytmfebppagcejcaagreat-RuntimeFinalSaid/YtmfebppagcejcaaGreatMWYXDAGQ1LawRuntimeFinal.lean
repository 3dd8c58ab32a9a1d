/- RuntimeFinal, for every input: the call returns true, and every argument reads afterwards as it read before. No condition. -/
import Derived.Test.YtmfebppagcejcaaGreatRows
import Derived.ProofKit
import Derived.ShutString
import Derived.ChangeOld
import Derived.Below
import Derived.Test.YtmfebppagcejcaaGreatMWYXDAGQ1Rf
namespace Go.Proofs.YtmfebppagcejcaaGreat.runtimeFinal
open Go.ChangeShapes Go.WideShapes Go.ChangeAt Go.RowKit
open Go.ChangeMaps (open_string shut_string)
set_option linter.unusedVariables false
theorem own:ownKnob Tryz.prog.godebug=none:=by kernel_rfl
theorem laidOut:laidOutB Tryz.prog=true:=by kernel_rfl
def Wa (k:IntKind) (w:World) (a:Option Addr) (len cap:Nat) (zs:List Int):Prop:=
  (a=none/\len=0/\cap=0/\zs=[])\/
  ∃x,a=some x/\len<=cap/\cap<=maxLen/\zs.length=cap/\(∀i,i<zs.length->w.cell? (x.add i)=some (.int k (zs.getD i 0)))/\∀n∈zs,(Lit.int k n).wf=true
theorem walk (a0:Option Addr) (len0 cap0:Nat) (z0:List Int) (w:World) (w0:Wa .i64 w a0 len0 cap0 z0):
    Calls Tryz.prog 5 #[.slice a0 len0 cap0] w λe w'=>e= .returned (.bool true)/\Below w.heap.size w w':=by
  refine (Mx w w (Go.E.blocks w) [] a0 len0 cap0 _ (Go.E.XR w0) (Go.E.KP w)).mono λe w' h=>?_;exact ⟨h.1,Go.E.Db h.2 (λp hp=>by simpa using hp)⟩
set_option maxRecDepth 100000 in
theorem lifted (os:Os) (started:os.Started) (H:Type) (enc:TypeId×Value->H):
    ReturnsInHanded {} Tryz.checked os 5 .any (Rows.runtimeFinalSpec.pre6 enc Tryz.prog Tryz.f5 Rows.runtimeFinalRow.domain false) (Rows.runtimeFinalSpec.post enc Tryz.prog Tryz.f5 false true false false):=by
  refine returnsInHanded_of_change (C:=Tryz.checked) own started (by kernel_rfl) Tryz.func5
    (ChangeSpec.witness6 (enc:=enc) (C:=Tryz.checked) false ⟨#[],#[.slice none 0 0],[]⟩ 8 (by kernel_rfl) (by kernel_rfl) (by kernel_rfl) (by kernel_rfl)) ?_
  intro W base args ds gs before hval0 hW hcnd _;have hval:∀(j:Nat) t v,Tryz.f5.params[j]?=some t->args[j]?=some v->Value.okWide Tryz.prog W .any base t v:=hval0;have hW':=hW;obtain ⟨p,q,hA0,hV,rfl,hfz,hnd⟩:=hW;have hA:DataW.TrodAll enc Tryz.prog W 0 (λ_=>true) true Tryz.f5.params.toList args.toList ds p:=hA0;rw [Tryz.params5] at hA hval;obtain ⟨v0,vs0,d0,ds0,p0,q0,hargs,rfl,rfl,h0,r0⟩:=trodAll_cons hA;obtain ⟨rfl,rfl,rfl⟩:=trodAll_nil r0;obtain rfl:args=#[v0]:=by cases args;simp_all
  obtain ⟨rfl,rfl⟩:=trodVars_none hV;obtain ⟨a0,len0,cap0,rfl⟩:=okWide_slice Tryz.underlying22 (hval 0 22 v0 rfl rfl);have k0:=h0;have lt0:∀x∈p0,x.block<W.heap.size:=by obtain ⟨m,hm⟩:=k0;exact DataW.trod_lt m _ _ _ hm
  obtain ⟨z0,w0⟩:∃zs,Wa .i64 W a0 len0 cap0 zs:=by
    obtain ⟨fuel,hf⟩:=h0;rcases open_ints Tryz.underlying22 Tryz.underlying3 (by kernel_rfl) hf with ⟨hcs,_⟩|⟨x,l,c,zs,hcs,_,hl,hm,hz,_,hcell,hwz⟩
    · simp [Value.cells] at hcs;obtain ⟨rfl,rfl,rfl⟩:=hcs;exact ⟨[], .inl ⟨rfl,rfl,rfl,rfl⟩⟩
    · simp [Value.cells] at hcs;obtain ⟨rfl,rfl,rfl⟩:=hcs;exact ⟨zs, .inr ⟨_,rfl,hl,hm,by simpa using hz,hcell,hwz⟩⟩
  clear hA0 hval0;refine (walk a0 len0 cap0 z0 W w0).mono λe W' ⟨he,bel⟩=>?_;subst he;exact ⟨_,rfl,_,_,_,[],_,[],hW',trodAll_mk1 (shut_bool Tryz.underlying4 _),(trodAll_cons_mk (Below.trod laidOut (by kernel_rfl) (of_decide_eq_true (by kernel_rfl)) k0 bel lt0) trodAll_mk0),rfl,bel.frame _,λh=>by cases h⟩
theorem km {a b:Bool} (h:a=true) (k:b=true):(a&&b)=true:=by rw [h,k];rfl
theorem jf0:(Rows.runtimeFinalRow.wf (OpenSpec.ofChange Rows.runtimeFinalSpec))=true:=by kernel_rfl
theorem jf1:(laidOutB Tryz.pinned.checked.prog)=true:=by kernel_rfl
theorem jf2:(mapsRowed Tryz.pinned.checked.prog)=true:=by kernel_rfl
theorem jf3:(Tryz.f5.params.all (Tryz.pinned.checked.prog.readableRec ·))=true:=by kernel_rfl
theorem jf4:(namedTie Tryz.pinned.checked.prog Rows.runtimeFinalRow.named Rows.runtimeFinalSpec.vars)=true:=by kernel_rfl
theorem jf5:((Rows.runtimeFinalRow.stops==[]))=true:=by kernel_rfl
theorem jf6:((Tryz.pinned.checked.prog.stops==[]))=true:=by kernel_rfl
theorem jf7:((Rows.runtimeFinalRow.knobs==[]))=true:=by kernel_rfl
theorem jf8:((Tryz.pinned.checked.prog.stopKnobs==[]))=true:=by kernel_rfl
theorem jf9:((Rows.runtimeFinalRow.inPlace==Tryz.pinned.checked.prog.inPlace 5))=true:=by kernel_rfl
theorem aaG:((Rows.runtimeFinalRow.unfollowed==Tryz.pinned.checked.prog.unfollowed 5))=true:=by kernel_rfl
theorem aau:((Rows.runtimeFinalRow.recurses==Tryz.pinned.checked.prog.recurses 5))=true:=by kernel_rfl
theorem aa4:((Rows.runtimeFinalRow.named==Tryz.pinned.checked.prog.varsNamed 5))=true:=by kernel_rfl
theorem aa8:((Rows.runtimeFinalRow.maps==(Tryz.f5.params.toList++Rows.runtimeFinalSpec.plain.varTypes Tryz.pinned.checked.prog).any (Tryz.pinned.checked.prog.mapsRec ·)))=true:=by kernel_rfl
theorem aam:((Rows.runtimeFinalRow.ifaces==(Tryz.f5.params.toList++Rows.runtimeFinalSpec.plain.varTypes Tryz.pinned.checked.prog).any (Tryz.pinned.checked.prog.ifacesRec ·)))=true:=by kernel_rfl
theorem abb:((Rows.runtimeFinalRow.mapsOut==Tryz.pinned.checked.prog.mapsAmong Tryz.f5.resultTypes.toList))=true:=by kernel_rfl
theorem aaS:((Rows.runtimeFinalRow.loops==(Tryz.f5.params.toList++Rows.runtimeFinalSpec.plain.varTypes Tryz.pinned.checked.prog).any (Tryz.pinned.checked.prog.loopsFrom ·)))=true:=by kernel_rfl
theorem aaD:((Rows.runtimeFinalRow.wideKeys==(Tryz.f5.params.toList++Rows.runtimeFinalSpec.plain.varTypes Tryz.pinned.checked.prog++Tryz.f5.resultTypes.toList).any (Tryz.pinned.checked.prog.wideKeysFrom ·)))=true:=by kernel_rfl
theorem aaq:(Rows.runtimeFinalSpec.vars.all (Tryz.pinned.checked.prog.varReadable ·))=true:=by kernel_rfl
theorem aaL:(Tryz.f5.resultTypes.all (λt=>Tryz.pinned.checked.prog.readableRec t&&decide (t<Tryz.pinned.checked.prog.types.size)))=true:=by kernel_rfl
theorem aaw:((Rows.runtimeFinalRow.ifacesOut==Tryz.f5.resultTypes.toList.any (Tryz.pinned.checked.prog.ifacesRec ·)))=true:=by kernel_rfl
theorem aa6:((Rows.runtimeFinalRow.loopsOut==Tryz.f5.resultTypes.toList.any (Tryz.pinned.checked.prog.loopsFrom ·)))=true:=by kernel_rfl
theorem aaO:((Rows.runtimeFinalRow.plainKeys==Tryz.pinned.checked.prog.plainKeys))=true:=by kernel_rfl
theorem aay:(Rows.runtimeFinalRow.shortTexts.isNone)=true:=by kernel_rfl
theorem aa9:(Tryz.pinned.checked.prog.stopsHeard)=true:=by kernel_rfl
theorem aa0:(Tryz.pinned.checked.prog.mayEnter)=true:=by kernel_rfl
theorem aal:((Rows.runtimeFinalRow.lifted==Tryz.pinned.checked.prog.liftsFinal))=true:=by kernel_rfl
theorem aaT:((Tryz.pinned.checked.prog.make==some Rows.runtimeFinalRow.make))=true:=by kernel_rfl
theorem aaA:((Rows.runtimeFinalRow.kinds==(if Rows.runtimeFinalRow.domain.isEmpty then [] else Tryz.f5.params.toList.map λt=>match Tryz.pinned.checked.prog.underlying t with|some (.int k)=>some k|_=>none)))=true:=by kernel_rfl
theorem aa2:((Rows.runtimeFinalRow.pinned==Rows.runtimeFinalRow.pinnedBy))=true:=by kernel_rfl
theorem aas:((Rows.runtimeFinalRow.veiled==(Tryz.f5.params.toList++Rows.runtimeFinalSpec.plain.varTypes Tryz.pinned.checked.prog++Tryz.f5.resultTypes.toList).any (Tryz.pinned.checked.prog.veiledRec ·)))=true:=by kernel_rfl
theorem aaR:(Rows.runtimeFinalRow.veiledFits Tryz.pinned.checked.prog Tryz.f5.params.toList (Tryz.f5.params.toList++Rows.runtimeFinalSpec.plain.varTypes Tryz.pinned.checked.prog++Tryz.f5.resultTypes.toList))=true:=by kernel_rfl
set_option maxRecDepth 100000 in
theorem jfs:joinedFacts Tryz.pinned.checked.prog 5 Tryz.f5 Rows.runtimeFinalSpec Rows.runtimeFinalRow=true:=by
  unfold joinedFacts;exact (km (km (km (km (km (km (km (km (km (km (km (km (km (km (km (km (km (km (km (km (km (km (km (km (km (km (km (km (km (km (km jf0 jf1) jf2) jf3) jf4) jf5) jf6) jf7) jf8) jf9) aaG) aau) aa4) aa8) aam) abb) aaS) aaD) aaq) aaL) aaw) aa6) aaO) aay) aa9) aa0) aal) aaT) aaA) aa2) aas) aaR)
theorem aaV:Rows.runtimeFinalRow.holds Tryz.pinned (OpenSpec.ofChange Rows.runtimeFinalSpec):=
  OpenClaim.holds_of_wide 5 Tryz.f5 rfl rfl rfl rfl rfl rfl rfl ⟨rfl,rfl,rfl,rfl,rfl⟩ rfl rfl rfl rfl rfl (by kernel_rfl) Tryz.func5 jfs
    (of_decide_eq_true (by kernel_rfl)) (by unfold Func.isWrapper;first|(rw [if_pos (by decide+kernel)];kernel_rfl)|(rw [if_neg (by decide+kernel)];exact ⟨rfl,rfl⟩))
    (λos started H enc _=>lifted os started H enc)
theorem proved:Rows.RuntimeFinalSaid:=aaV
end Go.Proofs.YtmfebppagcejcaaGreat.runtimeFinal
