import Derived.Test.YtmlhcafjelkjfaaP1Ab
import Derived.WalkKit
import Derived.Deep.Quiet
import Derived.KernelRfl
import Derived.Laws.BytesString
import Derived.Laws.Shifts
import Derived.Laws.IdiomStrings
import Derived.Test.YtmlhcafjelkjfaaProg
import Derived.Laws.IdiomRangeMap
import Derived.Test.YtmlhcafjelkjfaaP1Ts
namespace Go.Proofs.Ytmlhcafjelkjfaa
open Go Go.E Go.Proofs.Try
set_option linter.all false
set_option maxRecDepth 100000
set_option maxHeartbeats 2000000
variable {W w:World} {H:Chunk} {F:List Chunk}
theorem firstErr_all {α:Type} {f:α->Int}:∀{l:List α},firstErr f l=0->∀x∈l,f x=0
  |[],_,x,h=>by cases h
  |a::l,e,x,h=>by
    unfold firstErr at e
    split at e
    · rename_i h0
      rcases List.mem_cons.1 h with rfl|h
      · exact h0
      · exact firstErr_all e x h
    · rename_i h0;exact absurd e h0
theorem taps_ok {l:List TapV} {n:Int} (h:tapsCode l n=0):(1<=l.length/\l.length<=128)/\∀t∈l,(1<=t.weights.length/\t.weights.length<=8)/\(-128<=t.first/\t.first<=256)/\areW t.weights=true:=by
  refine ⟨tapsCode_len h,fun t ht=>?_⟩
  unfold tapsCode at h
  split at h
  · have h1:=firstErr_all h t ht
    unfold tapCode tapC at h1
    split at h1
    · omega
    · split at h1
      · rename_i h3
        split at h1
        · exact ⟨by omega,by assumption,h3⟩
        · omega
      · omega
  · omega
theorem sat_flat5 {W w:World} {a b c d e:Chunk} {cs:List Chunk} (h:Sat W w (a::b::c::d::e::cs)):Sat W w [a,b,c,d,e,cs.flatten]:=h.perm (by simp)
theorem sat_unflat6 {W w:World} {a b c d e f:Chunk} {cs:List Chunk} (h:Sat W w [a,b,c,d,e,f,cs.flatten]):Sat W w (a::b::c::d::e::f::cs):=h.perm (by simp)
theorem rd_some {α:Type} {enc:α->List Value} {sz n k:Nat} {cs:List Chunk} {a:Option Addr} {xs:List α} (h:RdT enc sz cs a n k xs) (hn:0<n):¬a=none:=by
  obtain ⟨_,_,_,hp⟩:=h.2.2
  rcases hp with hp|⟨b,o,rfl,_⟩
  · omega
  · intro e;cases e
def kvR (q:Int×IL):Int×Value:=(q.1, .slice q.2.l.a q.2.l.n q.2.l.k)
def rget (rs:List (Int×IL)) (k:Int):Option IL:=(rs.find? fun q=>q.1==k).map (·.2)
theorem iget_map (k:Int):∀rs:List (Int×IL),iget (rs.map kvR) k=(rget rs k).map (fun m=>Value.slice m.l.a m.l.n m.l.k)
  |[]=>rfl
  |q::rs=>by
    have ih:=iget_map k rs
    unfold iget rget at ih⊢
    rw [List.map_cons,List.find?_cons,List.find?_cons]
    show Option.map (·.2) (match q.1==k with|true=>some (kvR q)|false=>_)=_
    cases q.1==k
    · exact ih
    · rfl
theorem rget_mem {rs:List (Int×IL)} {k:Int} {m:IL} (h:rget rs k=some m):(k,m)∈rs:=by
  unfold rget at h
  cases e:rs.find? (fun q=>q.1==k) with
  |none=>rw [e] at h;cases h
  |some q=>
    rw [e] at h
    have h1:=List.mem_of_find?_eq_some e
    have h2:(q.1==k)=true:=by have:=List.find?_some e;exact this
    have h3:q.1=k:=by simpa using h2
    have h4:q.2=m:=Option.some.inj h
    rw [<-h3,<-h4];exact h1
theorem rget_push {rs:List (Int×IL)} {k:Int} {m:IL} (h:rget rs k=none):rget (rs++[(k,m)]) k=some m:=by
  unfold rget at h⊢
  rw [List.find?_append]
  cases e:rs.find? (fun q=>q.1==k) with
  |none=>simp
  |some q=>rw [e] at h;cases h
def zIL:IL:=⟨⟨none,0,0,[]⟩⟩
theorem look_v (rs:List (Int×IL)) (k:Int) {m:IL} (hm:(rget rs k).getD zIL=m):(iget (rs.map kvR) k).getD (nS)= .slice m.l.a m.l.n m.l.k:=by
  rw [iget_map,<-hm];cases rget rs k<;>rfl
theorem rmix_at {p:PlaneV} {pol fill sh:Int} {x:List TapV} {x0:Int} {t:TapV} {j u n:Nat} {w:Int} (hw:t.weights[j]?=some w) (hu:u<n):
    ∀{v g:Int},v=resS p pol fill (tapAt x (x0+(u:Int))) t sh j->g=tapV p pol fill (tapAt x (x0+(u:Int))) sh (t.first+(j:Int))->v+w*g=resS p pol fill (tapAt x (x0+(u:Int))) t sh (j+1):=by
  intro v g hv hg
  rw [resS_succ hw,hv,hg]
theorem eqn22 (w:World) (a:Option Addr) (n k:Nat):(Op.equal 22 (.slice a n k) (nS)).run prog w= .ok a.isNone w:=by
  unfold Op.equal
  rw [show Op.maxDepth=9999+1 from rfl]
  unfold Op.equalIn
  simp only [Sem.run_bind,runUnderlying22,Result.andThen]
  cases a<;>simp
theorem eqvs22 (w:World) (a:Option Addr) (n k:Nat):∀x y,((do eqGuard .eql 22 x y (.slice a n k) (nS);binOp .eql 22 (.slice a n k) (nS)):Sem Value).run prog w= .ok (.bool (decide (a=none))) w:=by
  intro x y
  simp [eqGuard,binOp,eqn22]
  cases a<;>rfl
theorem p11_pixel (p : Plane) (e0 : Edge) (x : Int) (y : Int) (hp : Plane.Ok [H] p) (hpo : planeOK p.v = true) (hev : edgeV e0.policy e0.fill p.max_) (hS : Sat W w (H :: F)) :
  Ro prog 69 #[.agg (encPlane p).toArray, .agg #[I e0.policy, I e0.fill], I x, I y] (I (pixV p.v e0.policy e0.fill x y)) W w (H :: F) := by
 have hl_p_pix := hp.pix.le; have hn_p_pix := hp.pix.len
 have hsz := (plane_sz hpo).1; unfold sizeP at hsz; simp only [Plane.v] at hsz; have hpl : p.v.pix.length = p.pix.n := hn_p_pix
 refine callsA 49 func69 rfl <| sR <| sBox hS (.agg (encPlane p).toArray) (encPlane p).toArray fun _ _ f0 => sBox f0 (.agg #[I e0.policy, I e0.fill]) #[I e0.policy, I e0.fill] fun _ _ b0 => pu1 <| zS <| pu2 <| sL b0 1 0 (I p.w) (isAgg3 _) <| pu1 <| sL b0 0 0 (I e0.policy) (isAgg3 _) <| cR call79 (p3_index x p.w e0.policy b0.flat) fun _ c0 => pu5 <| zS <| pu2 <| sL c0 1 1 (I p.h) (isAgg3 _) <| pu1 <| sL c0 0 0 (I e0.policy) (isAgg3 _) <| cR call79 (p3_index y p.h e0.policy c0.flat) fun _ a0 => pu5 <| zQ <| pu3 <| sBn 33 ((idxV x p.w e0.policy).isSome) (fun g0 => ?_) (fun g0 => ?_)
 rotate_left
 ·exact pu3 <| zC <| pu1 <| sL a0 0 1 (I e0.fill) (isAgg3 _) <| pu1 <| zR <| retT [I e0.fill] <| ⟨congrArg (fun z => Ending.returned (I z)) (pixV_fill (by first | exact .inl ‹_› | exact .inr ‹_›)).symm, (a0.drops [0, 0])⟩
 refine pu3 <| nT <| cBn ((idxV y p.h e0.policy).isSome) (fun i0 => ?_) (fun i0 => ?_)
 rotate_left
 ·exact sR <| pu1 <| sL a0 0 1 (I e0.fill) (isAgg3 _) <| pu1 <| zR <| retT [I e0.fill] <| ⟨congrArg (fun z => Ending.returned (I z)) (pixV_fill (by first | exact .inl ‹_› | exact .inr ‹_›)).symm, (a0.drops [0, 0])⟩
 refine kT <| seqE ?_
 have hix := pl_ix hpo (x := (idxV x p.w e0.policy).getD 0) (y := (idxV y p.h e0.policy).getD 0) (idx_some ‹_›) (idx_some ‹_›); rw [hpl] at hix; simp only [Plane.v] at hix; have hi2 := idx_some (i := x) (n := p.w) (p := e0.policy) ‹_›
 exact rE <| pu1 <| sL a0 1 3 (.slice p.pix.a p.pix.n p.pix.k) (isAgg22 _) <| pu2 <| sL a0 1 0 (I p.w) (isAgg3 _) <| sMul ((idxV y p.h e0.policy).getD 0) p.w <| pu1 <| sAdd (((idxV y p.h e0.policy).getD 0) * p.w) ((idxV x p.w e0.policy).getD 0) <| sIdx hp.pix ((((idxV y p.h e0.policy).getD 0) * p.w) + ((idxV x p.w e0.policy).getD 0)) runUnderlying22 sizeOf3 fun d0 _ _ k0 l0 => sLp a0 (l0.up 2 rfl) 0 (I d0) (isAgg3 _) <| pu1 <| zE <| retT [I d0] <| ⟨congrArg (fun z => Ending.returned (I z)) (pixV_get (p := p.v) ‹_› ‹_› k0).symm, (a0.drops [0, 0])⟩
theorem p11_row (k:Int) (br bx bp be bs:Nat) (p:Plane) (e0:Edge) (ax:Option Addr) (nx kx:Nat) (x:List Tap) (sh:Int) (r:Rct) (hp:Plane.Ok [H] p) (hx:RdT encTap 2 [H] ax nx kx x) (dx:∀z∈x,Tap.Ok [H] z) (hpo:planeOK p.v=true) (hev:edgeV e0.policy e0.fill p.max_) (hxr:0<=r.x0/\r.x0<r.x1/\r.x1<=(nx:Int)/\nx<=128) (hbx:∀t∈x.map Tap.v,bndOK t.weights 0 p.max_=true) (hfx:∀t∈x.map Tap.v,(1<=t.weights.length/\t.weights.length<=8)/\(-128<=t.first/\t.first<=256)/\areW t.weights=true) (hS:Sat W w ([(br, .cells (encRct r).toArray 24 (0,0))]::[(bx, .cells #[.slice ax nx kx] 56 (0,0))]::[(bp, .cells (encPlane p).toArray 28 (0,0))]::[(be, .cells #[I e0.policy,I e0.fill] 55 (0,0))]::[(bs, .cells #[I sh] 3 (0,0))]::H::F)):
  Calls prog 68 #[I k,Pt br 0,Pt bx 0,Pt bp 0,Pt be 0,Pt bs 0] w fun e w'=>∃(az:Option Addr) (nz kz:Nat) (zs:List Int) (G:Chunk),e= .returned (.slice az nz kz)/\RdT Go.E.encI 1 [G] az nz kz zs/\zs=tapR p.v e0.policy e0.fill (x.map Tap.v) sh r.x0 k (r.x1-r.x0).toNat/\Sat W w' (G::[(br, .cells (encRct r).toArray 24 (0,0))]::[(bx, .cells #[.slice ax nx kx] 56 (0,0))]::[(bp, .cells (encPlane p).toArray 28 (0,0))]::[(be, .cells #[I e0.policy,I e0.fill] 55 (0,0))]::[(bs, .cells #[I sh] 3 (0,0))]::H::F):=by
 have hl_p_pix:=hp.pix.le;have hn_p_pix:=hp.pix.len
 have hl_x:=hx.le;have hn_x:=hx.len
 have hsz:=(plane_sz hpo).1;unfold sizeP at hsz;simp only [Plane.v] at hsz;obtain ⟨Wn,hW⟩:∃k:Nat,r.x1-r.x0=(k:Int):=⟨_,(Int.toNat_of_nonneg om).symm⟩;have hWx:r.x1.toNat-r.x0.toNat=Wn:=by omega
 refine callsA 60 func68 rfl ?_
 refine sR<|pu1<|zS<|pu1 ?_
 refine sL hS 0 2 (I r.x1) (isAgg3 _) ?_
 refine pu1 ?_
 refine sL hS 0 0 (I r.x0) (isAgg3 _) ?_
 refine sSub r.x1 r.x0 ?_
 refine sMake0 (kl:= .i64) (kc:= .i64) (enc:=Go.E.encI) (sz:=1) (nb:=8) hS ((r.x1-r.x0)).toNat (r.x1-r.x0) (om:(r.x1-r.x0)=((((r.x1-r.x0)).toNat:Nat):Int)) underlying22 (i:=Try.t3) kr fR ?_
 intro k0 l0 _ m0 f0
 refine pu1<|zQ ?_
 refine sL f0 2 0 (.slice ax nx kx) (isAgg56 _) ?_
 refine pu1 ?_
 refine sL f0 1 0 (I r.x0) (isAgg3 _) ?_
 refine pu1 ?_
 refine sL f0 1 2 (I r.x1) (isAgg3 _) ?_
 refine sSl (some r.x0) (some r.x1) ((r.x0).toNat) ((r.x1).toNat) runUnderlying56 sizeOf97 ⟨om,om⟩ ⟨om,om⟩ om om ?_ (a:=ax) (len:=nx) (cap:=kx)
 have n0:=hx.part (lo:=(r.x0).toNat) (hi:=(r.x1).toNat) om om
 refine pu2<|nT<|blockE ?_
 refine loopA (γ:=Nat×(List Int)×(Option Addr)×Nat×Nat×Chunk) (fun ⟨u,zs,azs,nzs,kzs,czs⟩=>[(0,I k),(3,Pt bp 0),(4,Pt be 0),(5,Pt bs 0),(25, .slice (partAddr ax kx ((r.x0).toNat) 2) ((r.x1).toNat-((r.x0).toNat)) (kx-((r.x0).toNat))),(26,I ((((r.x1).toNat-((r.x0).toNat)):Nat):Int)),(27,I (u:Int)),(8, .slice azs nzs kzs)]) (fun ⟨u,zs,azs,nzs,kzs,czs⟩ w=>Sat W w (czs::[(br, .cells (encRct r).toArray 24 (0,0))]::[(bx, .cells #[.slice ax nx kx] 56 (0,0))]::[(bp, .cells (encPlane p).toArray 28 (0,0))]::[(be, .cells #[I e0.policy,I e0.fill] 55 (0,0))]::[(bs, .cells #[I sh] 3 (0,0))]::H::F)/\u<=Wn/\(zs=tapR p.v e0.policy e0.fill (x.map Tap.v) sh r.x0 k u)/\OwnT Go.E.encI 3 1 azs nzs kzs zs czs) (fun ⟨u,zs,azs,nzs,kzs,czs⟩=>Wn-u) (0,[],(At k0 0),0,((r.x1-r.x0)).toNat,l0) ⟨f0,om,by rfl,m0⟩ ?_
 rintro ⟨u,zs,azs,nzs,kzs,czs⟩ ρ _ ⟨g0,hu,hE,hOzs⟩
 have hn_zs:=hOzs.len;have hl_zs:=hOzs.le
 have hzl:zs.length=u:=by rw [hE];exact tab_len _ _
 refine sR<|pu1<|nT<|seqE ?_
 refine cD ((u:Int)<((((r.x1).toNat-((r.x0).toNat)):Nat):Int)) (fun o0=>?_) (fun o0=>?_)
 rotate_left
 ·refine exitE<|xB<|tN<|sR<|pu2<|zE<|retT [.slice azs nzs kzs] ?_
  exact ⟨azs,nzs,kzs,zs,_,rfl,(hOzs.rdAt (cs:=[czs]) 0 rfl),(by rw [hE,show (r.x1-r.x0).toNat=u by omega]),g0⟩
 refine kT<|seqE<|blockE<|sR ?_
 refine sIdx n0 (u:Int) runUnderlying56 sizeOf97 ?_
 intro a0 _ _ c0 p0
 rw [Int.toNat_natCast] at c0
 have hxa:x[r.x0.toNat+u]?=some a0:=part_at c0;have hxm:=map_at (f:=Tap.v) hxa;have htm:=List.mem_of_getElem? hxm;have hbt:=hbx _ htm;have hft:=hfx _ htm;have hta:tapAt (x.map Tap.v) (r.x0+(u:Int))=a0.v:=tapAt_eq (by rw [show (r.x0+(u:Int)).toNat=r.x0.toNat+u by omega];exact hxm)
 have hnw:=((fun z hz=>dx z (List.mem_of_mem_drop (List.mem_of_mem_take hz))) a0 (List.mem_of_getElem? c0)).weights.len;have hlw:=((fun z hz=>dx z (List.mem_of_mem_drop (List.mem_of_mem_take hz))) a0 (List.mem_of_getElem? c0)).weights.le;simp only [Tap.v] at hft
 refine sLpA g0 (p0.up 6 rfl) 0 [I a0.first, .slice a0.weights.a a0.weights.n a0.weights.k] (isAgg97 _) (sizeOf97 _) ?_
 refine sAlloc g0 zeroValue97 ?_
 intro i0 _ q0
 refine sTl q0 0 [I a0.first, .slice a0.weights.a a0.weights.n a0.weights.k] sizeOf97 ?_
 intro _ j0
 refine zS<|pu1<|zQ<|pu1 ?_
 refine sL j0 0 1 (.slice a0.weights.a a0.weights.n a0.weights.k) (isAgg22 _) ?_
 refine pu2<|nT<|blockE ?_
 refine loopA (γ:=Nat×Int) (fun ⟨a,s1⟩=>[(0,I k),(3,Pt bp 0),(4,Pt be 0),(5,Pt bs 0),(25, .slice (partAddr ax kx ((r.x0).toNat) 2) ((r.x1).toNat-((r.x0).toNat)) (kx-((r.x0).toNat))),(26,I ((((r.x1).toNat-((r.x0).toNat)):Nat):Int)),(27,I (u:Int)),(8, .slice azs nzs kzs),(10,Pt i0 0),(32, .slice a0.weights.a a0.weights.n a0.weights.k),(33,I (a0.weights.n:Int)),(34,I (a:Int)),(11,I s1)]) (fun ⟨a,s1⟩ w=>Sat W w ([(i0, .cells #[I a0.first, .slice a0.weights.a a0.weights.n a0.weights.k] 97 (0,0))]::czs::[(br, .cells (encRct r).toArray 24 (0,0))]::[(bx, .cells #[.slice ax nx kx] 56 (0,0))]::[(bp, .cells (encPlane p).toArray 28 (0,0))]::[(be, .cells #[I e0.policy,I e0.fill] 55 (0,0))]::[(bs, .cells #[I sh] 3 (0,0))]::H::F)/\a<=a0.weights.n/\(s1=tapS p.v e0.policy e0.fill a0.v k a)) (fun ⟨a,s1⟩=>a0.weights.n-a) (0,0) ⟨j0,om,by rfl⟩ ?_
 rintro ⟨a,s1⟩ ρ _ ⟨b0,ha,hs1⟩
 have hsb:=tap_part hpo hev (t:=a0.v) (k:=k) hbt (n:=a) (by simp only [Tap.v];omega)
 refine sR<|pu1<|nT<|seqE ?_
 refine cD ((a:Int)<(a0.weights.n:Int)) (fun r0=>?_) (fun r0=>?_)
 rotate_left
 ·refine exitE<|xB<|tN<|rE<|pu2 ?_
  refine sL b0 6 0 (I sh) (isAgg3 _) ?_
  refine cR call64 (p7_shift s1 sh b0.flat) ?_
  intro _ s0
  refine sBS s0 #[I (shiftV s1 sh)] runUnderlying22 sizeOf3 zeroValue3 ?_
  intro _ _ t0
  refine sApp (nb:=8) t0 hOzs 2 (RdT.blk (enc:=Go.E.encI) (sz:=1) (xs:=[(shiftV s1 sh)]) fR 1 0 rfl rfl rfl om) underlying22 (i:=Try.t3) kr fR ?_
  intro u0 v0 w0 _ y0 z0
  refine pu1<|nB<|rE ?_
  refine sAdd (u:Int) 1 ?_
  refine pu1<|nT ?_
  exact ⟨(u+1,(zs++[(shiftV s1 sh)]),u0,(nzs+1),v0,w0),od,alA,(z0.drops [0,0]),om,(by rw [hE,tapR,tapR,tab_succ,hta,tapV,show a0.v.weights.length=a from by simp only [Tap.v];omega,<-hs1]),y0⟩
 refine kT<|seqE<|blockE<|sR<|pu1 ?_
 refine sIdx ((fun z hz=>dx z (List.mem_of_mem_drop (List.mem_of_mem_take hz))) a0 (List.mem_of_getElem? c0)).weights (a:Int) runUnderlying22 sizeOf3 ?_
 intro d0 _ _ h0 b1
 rw [Int.toNat_natCast] at h0
 have hwx:=areW_at hft.2.2 h0
 refine sLp b0 (b1.up 7 rfl) 0 (I d0) (isAgg3 _) ?_
 refine pu2<|nT<|rE<|pu2 ?_
 refine lA b0 4 0 4 (isAgg28 _) (sizeOf28 _) ?_
 refine lA b0 5 0 2 (isAgg55 _) (sizeOf55 _) ?_
 refine pu1 ?_
 refine sL b0 0 0 (I a0.first) (isAgg3 _) ?_
 refine pu1 ?_
 refine sAdd a0.first (a:Int) ?_
 refine pu1 ?_
 refine cR call69 (p11_pixel p e0 (a0.first+(a:Int)) k ⟨(RdT.flat (hp.pix.up 7 (by rfl)))⟩ hpo hev b0.flat) ?_
 intro _ c1
 have hpx:=pix_bd hpo hev (x:=(a0.first+(a:Int))) (y:=k);have hpm:=wmul_bd (v:=(pixV p.v e0.policy e0.fill (a0.first+(a:Int)) k)) (B:=4294967296) hwx (by simp only [Plane.v] at*;omega) (by decide)
 refine sMul d0 (pixV p.v e0.policy e0.fill (a0.first+(a:Int)) k) ?_
 refine sAdd s1 (d0*(pixV p.v e0.policy e0.fill (a0.first+(a:Int)) k)) ?_
 refine pu1<|nB<|rE ?_
 refine sAdd (a:Int) 1 ?_
 refine pu1<|nT ?_
 exact ⟨(a+1,(s1+(d0*(pixV p.v e0.policy e0.fill (a0.first+(a:Int)) k)))),od,alA,c1,om,(by rw [tapS_succ (show a0.v.weights[a]?=some d0 from h0),<-hs1];rfl)⟩
theorem p11_tile (p:Plane) (e0:Edge) (ax:Option Addr) (nx kx:Nat) (x:List Tap) (ay:Option Addr) (ny ky:Nat) (y:List Tap) (sh:Int) (sh2:Int) (out:Int) (r:Rct) (hp:Plane.Ok [H] p) (hx:RdT encTap 2 [H] ax nx kx x) (dx:∀z∈x,Tap.Ok [H] z) (hy:RdT encTap 2 [H] ay ny ky y) (dy:∀z∈y,Tap.Ok [H] z) (hS:Sat W w (H::F)):
  Calls prog 53 #[.agg (encPlane p).toArray, .agg #[I e0.policy,I e0.fill], .slice ax nx kx, .slice ay ny ky,I sh,I sh2,I out, .agg (encRct r).toArray] w fun e w'=>∃(q:Plane) (c:Int) (G:Chunk),e= .returned (.tuple #[.agg (encPlane q).toArray,I c])/\q.Ok [G]/\(q.v,c)=resT p.v e0.policy e0.fill (x.map Tap.v) (y.map Tap.v) sh sh2 out r/\Sat W w' (G::H::F):=by
 have hl_p_pix:=hp.pix.le;have hn_p_pix:=hp.pix.len
 have hl_x:=hx.le;have hn_x:=hx.len
 have hl_y:=hy.le;have hn_y:=hy.len
 refine callsA 163 func53 rfl ?_
 refine sR ?_
 refine sBox hS (.agg (encPlane p).toArray) (encPlane p).toArray ?_
 intro c0 _ j3
 refine sBox j3 (.agg #[I e0.policy,I e0.fill]) #[I e0.policy,I e0.fill] ?_
 intro d0 _ k3
 refine sBox k3 (.slice ax nx kx) #[.slice ax nx kx] ?_
 intro f0 _ l3
 refine sBox l3 (I sh) #[I sh] ?_
 intro g0 _ m3
 refine sBox m3 (.agg (encRct r).toArray) (encRct r).toArray ?_
 intro h0 _ n3
 refine sAlloc n3 zeroValue28 ?_
 intro j0 _ j2
 refine pu1<|zQ ?_
 refine lA j2 5 0 4 (isAgg28 _) (sizeOf28 _) ?_
 refine cR call18 (p4_valid p ⟨(RdT.flat (hp.pix.up 6 (by rfl)))⟩ j2.flat) ?_
 intro _ j1
 refine pu2 ?_
 refine sBn 36 (planeOK p.v) (fun b1=>?_) (fun b1=>?_)
 rotate_left
 ·refine pu6<|zC<|pu1 ?_
  refine sTl j1 0 [I 0,I 0,I 0,nS] sizeOf28 ?_
  intro _ k2
  refine pu1<|zR<|retC k2 0 [I 0,I 0,I 0,nS] (I 1) (isAgg28 _) (sizeOf28 _) ?_
  have hC:edgC p.v e0.policy e0.fill (resCode p.v.w p.v.h p.v.max_ (x.map Tap.v) (y.map Tap.v) sh sh2 out) ((x.map Tap.v).length:Int) ((y.map Tap.v).length:Int) r=1:=edgC_a (fun h=>b1 h.1)
  have o3:=(k2.drops [0,0,0,0,0,0])
  have p3:Sat W _ ([]::H::F):=Sat.nilc o3
  exact ⟨(⟨0,0,0,⟨none,0,0,[]⟩⟩:Plane),1,_,rfl,⟨RdT.nil (enc:=Go.E.encI) (sz:=1) fR [[]]⟩,(by unfold resT;rw [okT_c hC om];rfl),p3⟩
 refine gY ?_
 refine lA j1 4 0 2 (isAgg55 _) (sizeOf55 _) ?_
 refine pu1<|gY ?_
 refine sL j1 5 2 (I p.max_) (isAgg3 _) ?_
 refine gY ?_
 refine cR call59 (p3_valid e0 p.max_ j1.flat) ?_
 intro _ e1
 refine pu2<|nT ?_
 refine cDn ((e0.policy=3/\0<=e0.fill/\e0.fill<=p.max_)\/(0<=e0.policy/\e0.policy<3/\e0.fill=0)) (fun c1=>?_) (fun c1=>?_)
 rotate_left
 ·refine sR<|pu1 ?_
  refine sTl e1 0 [I 0,I 0,I 0,nS] sizeOf28 ?_
  intro _ l2
  refine pu1<|zR<|retC l2 0 [I 0,I 0,I 0,nS] (I 1) (isAgg28 _) (sizeOf28 _) ?_
  have hC:edgC p.v e0.policy e0.fill (resCode p.v.w p.v.h p.v.max_ (x.map Tap.v) (y.map Tap.v) sh sh2 out) ((x.map Tap.v).length:Int) ((y.map Tap.v).length:Int) r=1:=edgC_a (fun h=>c1 h.2)
  have q3:=(l2.drops [0,0,0,0,0,0])
  have r3:Sat W _ ([]::H::F):=Sat.nilc q3
  exact ⟨(⟨0,0,0,⟨none,0,0,[]⟩⟩:Plane),1,_,rfl,⟨RdT.nil (enc:=Go.E.encI) (sz:=1) fR [[]]⟩,(by unfold resT;rw [okT_c hC om];rfl),r3⟩
 refine kS<|pu1 ?_
 refine sL e1 5 0 (I p.w) (isAgg3 _) ?_
 refine pu1 ?_
 refine sL e1 5 1 (I p.h) (isAgg3 _) ?_
 refine pu1 ?_
 refine sL e1 5 2 (I p.max_) (isAgg3 _) ?_
 refine pu1 ?_
 refine sAlloc e1 zeroValue77 ?_
 intro f1 _ s3
 refine sTl s3 0 [I p.w,I p.h,I p.max_] sizeOf77 ?_
 intro _ k1
 refine zQ ?_
 refine lA k1 0 0 3 (isAgg77 _) (sizeOf77 _) ?_
 refine sL k1 4 0 (.slice ax nx kx) (isAgg56 _) ?_
 refine pu1 ?_
 refine sL k1 3 0 (I sh) (isAgg3 _) ?_
 refine pu2 ?_
 refine cR call67 (p11_check (⟨p.w,p.h,p.max_⟩:Shape) ax nx kx x ay ny ky y sh sh2 out (RdT.flat (hx.up 7 (by rfl))) (fun z hz=>(dx z hz).of_mem (mem_flat1 7 (by rfl))) (RdT.flat (hy.up 7 (by rfl))) (fun z hz=>(dy z hz).of_mem (mem_flat1 7 (by rfl))) k1.flat) ?_
 intro _ t1
 refine pu1<|zS<|pu2<|nT ?_
 refine cN (resCode (⟨p.w,p.h,p.max_⟩:Shape).w (⟨p.w,p.h,p.max_⟩:Shape).h (⟨p.w,p.h,p.max_⟩:Shape).max_ (x.map Tap.v) (y.map Tap.v) sh sh2 out) 0 (fun u3=>?_) (fun u3=>?_)
 rotate_left
 ·refine sR<|pu2 ?_
  refine sTl t1 1 [I 0,I 0,I 0,nS] sizeOf28 ?_
  intro _ m2
  refine pu1<|zR<|retC m2 1 [I 0,I 0,I 0,nS] (I (resCode (⟨p.w,p.h,p.max_⟩:Shape).w (⟨p.w,p.h,p.max_⟩:Shape).h (⟨p.w,p.h,p.max_⟩:Shape).max_ (x.map Tap.v) (y.map Tap.v) sh sh2 out)) (isAgg28 _) (sizeOf28 _) ?_
  have hC:edgC p.v e0.policy e0.fill (resCode p.v.w p.v.h p.v.max_ (x.map Tap.v) (y.map Tap.v) sh sh2 out) ((x.map Tap.v).length:Int) ((y.map Tap.v).length:Int) r=(resCode (⟨p.w,p.h,p.max_⟩:Shape).w (⟨p.w,p.h,p.max_⟩:Shape).h (⟨p.w,p.h,p.max_⟩:Shape).max_ (x.map Tap.v) (y.map Tap.v) sh sh2 out):=edgC_b ⟨b1,c1⟩ (by simp only [Plane.v] at*;omega)
  have v3:=(m2.drops [0,0,0,0,0,0,0])
  have w3:Sat W _ ([]::H::F):=Sat.nilc v3
  exact ⟨(⟨0,0,0,⟨none,0,0,[]⟩⟩:Plane),(resCode (⟨p.w,p.h,p.max_⟩:Shape).w (⟨p.w,p.h,p.max_⟩:Shape).h (⟨p.w,p.h,p.max_⟩:Shape).max_ (x.map Tap.v) (y.map Tap.v) sh sh2 out),_,rfl,⟨RdT.nil (enc:=Go.E.encI) (sz:=1) fR [[]]⟩,(by unfold resT;rw [okT_c hC om];rfl),w3⟩
 refine kT<|seqE<|sR ?_
 refine lA t1 2 0 4 (isAgg24 _) (sizeOf24 _) ?_
 refine cR call19 (p2_empty r t1.flat) ?_
 intro _ l1
 refine pu1 ?_
 refine sD 64 (r.x0=0/\r.y0=0/\r.x1=0/\r.y1=0) (fun u1=>?_) (fun u1=>?_)
 ·refine pu9<|zC<|pu1 ?_
  refine sTl l1 1 [I 0,I 0,I 0,nS] sizeOf28 ?_
  intro _ n2
  refine pu1<|zR<|retC n2 1 [I 0,I 0,I 0,nS] (I 8) (isAgg28 _) (sizeOf28 _) ?_
  obtain ⟨htx,hty,_⟩:=res_ok (show (resCode p.v.w p.v.h p.v.max_ (x.map Tap.v) (y.map Tap.v) sh sh2 out)=0 by simp only [Plane.v];omega);have hlx:=tapsCode_len htx;have hly:=tapsCode_len hty;have hxl:(x.map Tap.v).length=nx:=by rw [List.length_map];exact hn_x
  have hyl:(y.map Tap.v).length=ny:=by rw [List.length_map];exact hn_y
  have hC:edgC p.v e0.policy e0.fill (resCode p.v.w p.v.h p.v.max_ (x.map Tap.v) (y.map Tap.v) sh sh2 out) ((x.map Tap.v).length:Int) ((y.map Tap.v).length:Int) r=8:=edgC_c ⟨b1,c1⟩ (by simp only [Plane.v] at*;omega) (fun h=>by have h2:=(ins_in om om).2 h;rw [hxl,hyl] at h2;exact h2.1 u1)
  have x3:=(n2.drops [0,0,0,0,0,0,0])
  have y3:Sat W _ ([]::H::F):=Sat.nilc x3
  exact ⟨(⟨0,0,0,⟨none,0,0,[]⟩⟩:Plane),8,_,rfl,⟨RdT.nil (enc:=Go.E.encI) (sz:=1) fR [[]]⟩,(by unfold resT;rw [okT_c hC om];rfl),y3⟩
 refine gY ?_
 refine lA l1 2 0 4 (isAgg24 _) (sizeOf24 _) ?_
 refine gY ?_
 refine sL l1 4 0 (.slice ax nx kx) (isAgg56 _) ?_
 refine pu4<|gY ?_
 refine cR call20 (p2_inside r (⟨0,0,(nx:Int),(ny:Int)⟩:Rct) l1.flat) ?_
 intro _ o2
 refine pu2<|nT ?_
 refine cDn (insP r (⟨0,0,(nx:Int),(ny:Int)⟩:Rct)) (fun v1=>?_) (fun v1=>?_)
 rotate_left
 ·refine sR<|pu1 ?_
  refine sTl o2 1 [I 0,I 0,I 0,nS] sizeOf28 ?_
  intro _ q2
  refine pu1<|zR<|retC q2 1 [I 0,I 0,I 0,nS] (I 8) (isAgg28 _) (sizeOf28 _) ?_
  obtain ⟨htx,hty,_⟩:=res_ok (show (resCode p.v.w p.v.h p.v.max_ (x.map Tap.v) (y.map Tap.v) sh sh2 out)=0 by simp only [Plane.v];omega);have hlx:=tapsCode_len htx;have hly:=tapsCode_len hty;have hxl:(x.map Tap.v).length=nx:=by rw [List.length_map];exact hn_x
  have hyl:(y.map Tap.v).length=ny:=by rw [List.length_map];exact hn_y
  have hC:edgC p.v e0.policy e0.fill (resCode p.v.w p.v.h p.v.max_ (x.map Tap.v) (y.map Tap.v) sh sh2 out) ((x.map Tap.v).length:Int) ((y.map Tap.v).length:Int) r=8:=edgC_c ⟨b1,c1⟩ (by simp only [Plane.v] at*;omega) (fun h=>by have h2:=(ins_in om om).2 h;rw [hxl,hyl] at h2;exact v1 h2.2)
  have z3:=(q2.drops [0,0,0,0,0,0,0])
  have a4:Sat W _ ([]::H::F):=Sat.nilc z3
  exact ⟨(⟨0,0,0,⟨none,0,0,[]⟩⟩:Plane),8,_,rfl,⟨RdT.nil (enc:=Go.E.encI) (sz:=1) fR [[]]⟩,(by unfold resT;rw [okT_c hC om];rfl),a4⟩
 refine kT<|seqE ?_
 have hpo:planeOK p.v=true:=b1;have hev:edgeV e0.policy e0.fill p.max_:=c1;have hcc:(resCode p.v.w p.v.h p.v.max_ (x.map Tap.v) (y.map Tap.v) sh sh2 out)=0:=by simp only [Plane.v];omega
 have hsz:=(plane_sz hpo).1;unfold sizeP at hsz;simp only [Plane.v] at hsz;obtain ⟨htx,hty,hxy,hss,hoo,hbX0,hbY0⟩:=res_ok hcc;obtain ⟨hlx,hfX⟩:=taps_ok htx;obtain ⟨hly,hfY⟩:=taps_ok hty;have hbX:=List.all_eq_true.1 hbX0;have hxl:(x.map Tap.v).length=nx:=by rw [List.length_map];exact hn_x
 have hyl:(y.map Tap.v).length=ny:=by rw [List.length_map];exact hn_y
 have hri:rIn r ((x.map Tap.v).length:Int) ((y.map Tap.v).length:Int):=(ins_in om om).1 (by rw [hxl,hyl];exact ⟨u1,v1⟩)
 have hri0:=hri;unfold rIn at hri0
 obtain ⟨Wn,hW⟩:∃k:Nat,r.x1-r.x0=(k:Int):=⟨_,(Int.toNat_of_nonneg om).symm⟩;obtain ⟨Hn,hH⟩:∃k:Nat,r.y1-r.y0=(k:Int):=⟨_,(Int.toNat_of_nonneg om).symm⟩
 have hWb:1<=Wn/\Wn<=128/\1<=Hn/\Hn<=128:=om;have hWH:Hn*Wn<=4096:=by have h1:=rIn_area hri (by first|omega|assumption);rw [hW,hH] at h1;have h2:((Hn*Wn:Nat):Int)=(Wn:Int)*(Hn:Int):=(by push_cast;rw [Int.mul_comm]);omega
 have hWi:(r.x1-r.x0)*(r.y1-r.y0)=((Hn*Wn:Nat):Int):=by rw [hW,hH];push_cast;rw [Int.mul_comm]
 have hHy:r.y1.toNat-r.y0.toNat=Hn:=by omega
 refine rE<|pu2<|zS ?_
 refine sMakeMapI o2 ?_
 intro p0 r2 _ b4 c4
 have g1:=Sat.nilc c4
 have d4:MapI p0 (([]:List (Int×IL)).map kvR) r2:=b4
 have e4:∀q∈([]:List (Int×IL)),IL.Ok [[]] q.2/\q.2.l.l=tapR p.v e0.policy e0.fill (x.map Tap.v) sh r.x0 q.1 Wn:=(by intro q hq;cases hq)
 obtain ⟨f,hf⟩:∃f:Int->Int->Int,f=fun i j=>resX p.v e0.policy e0.fill (x.map Tap.v) (y.map Tap.v) sh sh2 out (r.x0+i) (r.y0+j):=⟨_,rfl⟩
 refine pu1<|zS<|pu1 ?_
 refine sL g1 4 2 (I r.x1) (isAgg3 _) ?_
 refine pu1 ?_
 refine sL g1 4 0 (I r.x0) (isAgg3 _) ?_
 refine sSub r.x1 r.x0 ?_
 refine pu1 ?_
 refine sL g1 4 3 (I r.y1) (isAgg3 _) ?_
 refine pu1 ?_
 refine sL g1 4 1 (I r.y0) (isAgg3 _) ?_
 refine sSub r.y1 r.y0 ?_
 refine pu2 ?_
 refine sAlloc g1 zeroValue28 ?_
 intro i0 _ f4
 refine sTl f4 0 [I (r.x1-r.x0),I (r.y1-r.y0),I out,nS] sizeOf28 ?_
 intro _ w1
 refine zQ<|pu2 ?_
 refine sL w1 5 1 (I r.y0) (isAgg3 _) ?_
 refine pu1 ?_
 refine sL w1 5 3 (I r.y1) (isAgg3 _) ?_
 refine sSl (some r.y0) (some r.y1) ((r.y0).toNat) ((r.y1).toNat) runUnderlying56 sizeOf97 ⟨om,om⟩ ⟨om,om⟩ om om ?_ (a:=ay) (len:=ny) (cap:=ky)
 have g4:=hy.part (lo:=(r.y0).toNat) (hi:=(r.y1).toNat) om om
 refine pu2<|nT<|blockE ?_
 have h4:=Sat.nilc w1
 have i4:=OwnT.nil (enc:=Go.E.encI) (E:=3) (sz:=1) fR
 refine loopA (γ:=Nat×(List (Int×IL))×Chunk×Chunk×(List Int)×(Option Addr)×Nat×Nat×Chunk) (fun ⟨i,rs1,cm1,Gm1,ps,aps,nps,kps,cps⟩=>[(5,I sh2),(6,I out),(16,Pt j0 0),(20, .func (.func 68) #[] #[Pt h0 0,Pt f0 0,Pt c0 0,Pt d0 0,Pt g0 0]),(21, .map (some p0)),(22,Pt i0 0),(94, .slice (partAddr ay ky ((r.y0).toNat) 2) ((r.y1).toNat-((r.y0).toNat)) (ky-((r.y0).toNat))),(95,I ((((r.y1).toNat-((r.y0).toNat)):Nat):Int)),(96,I (i:Int))]) (fun ⟨i,rs1,cm1,Gm1,ps,aps,nps,kps,cps⟩ w=>Sat W w (cps::[(i0, .cells #[I (r.x1-r.x0),I (r.y1-r.y0),I out, .slice aps nps kps] 28 (0,0))]::Gm1::cm1::[(f1, .cells #[I p.w,I p.h,I p.max_] 77 (0,0))]::[(j0, .cells #[I 0,I 0,I 0,nS] 28 (0,0))]::[(h0, .cells (encRct r).toArray 24 (0,0))]::[(g0, .cells #[I sh] 3 (0,0))]::[(f0, .cells #[.slice ax nx kx] 56 (0,0))]::[(d0, .cells #[I e0.policy,I e0.fill] 55 (0,0))]::[(c0, .cells (encPlane p).toArray 28 (0,0))]::H::F)/\i<=Hn/\(ps=gridN Wn f (i*Wn))/\OwnT Go.E.encI 3 1 aps nps kps ps cps/\MapI p0 (rs1.map kvR) cm1/\(∀q∈rs1,IL.Ok [Gm1] q.2/\q.2.l.l=tapR p.v e0.policy e0.fill (x.map Tap.v) sh r.x0 q.1 Wn)) (fun ⟨i,rs1,cm1,Gm1,ps,aps,nps,kps,cps⟩=>Hn-i) (0,([]:List (Int×IL)),r2,[],[],none,0,0,[]) ⟨h4,om,(by rw [Nat.zero_mul];rfl),i4,d4,e4⟩ ?_
 rintro ⟨i,rs1,cm1,Gm1,ps,aps,nps,kps,cps⟩ ρ _ ⟨m1,hi,hE,hOps,hM1,hr1⟩
 have hn_ps:=hOps.len;have hl_ps:=hOps.le
 refine sR<|pu1<|nT<|seqE ?_
 refine cD ((i:Int)<((((r.y1).toNat-((r.y0).toNat)):Nat):Int)) (fun j4=>?_) (fun j4=>?_)
 rotate_left
 ·refine exitE<|xB<|tN<|sR ?_
  refine lA m1 1 0 4 (isAgg28 _) (sizeOf28 _) ?_
  refine sTl m1 5 [I (r.x1-r.x0),I (r.y1-r.y0),I out, .slice aps nps kps] sizeOf28 ?_
  intro _ s2
  refine pu1<|zE<|retC s2 5 [I (r.x1-r.x0),I (r.y1-r.y0),I out, .slice aps nps kps] (I 0) (isAgg28 _) (sizeOf28 _) ?_
  have hz9:ps=gridN Wn f (Hn*Wn):=by rw [hE,show i=Hn by omega]
  have hC:edgC p.v e0.policy e0.fill (resCode p.v.w p.v.h p.v.max_ (x.map Tap.v) (y.map Tap.v) sh sh2 out) ((x.map Tap.v).length:Int) ((y.map Tap.v).length:Int) r=0:=edgC_ok hpo hev hcc hri
  exact ⟨(⟨(r.x1-r.x0),(r.y1-r.y0),out,⟨aps,nps,kps,ps⟩⟩:Plane),0,_,rfl,⟨(hOps.rdAt (cs:=[cps]) 0 rfl)⟩,(by unfold resT;rw [okT_0 hC,mk_pl hri hW hH (hf▸hz9)];rfl),(s2.drops [1,1,1,1,1,1,1,1,1,1])⟩
 refine kT<|seqE<|blockE<|sR ?_
 refine sIdx g4 (i:Int) runUnderlying56 sizeOf97 ?_
 intro a0 _ _ i1 l4
 rw [Int.toNat_natCast] at i1
 have hya:y[r.y0.toNat+i]?=some a0:=part_at i1;have hym:=map_at (f:=Tap.v) hya;have htm:=List.mem_of_getElem? hym;have hbt:=List.all_eq_true.1 hbY0 _ htm;have hft:=hfY _ htm;have hta:tapAt (y.map Tap.v) (r.y0+(i:Int))=a0.v:=tapAt_eq (by rw [show (r.y0+(i:Int)).toNat=r.y0.toNat+i by omega];exact hym)
 have hnw:=((fun z hz=>dy z (List.mem_of_mem_drop (List.mem_of_mem_take hz))) a0 (List.mem_of_getElem? i1)).weights.len;have hlw:=((fun z hz=>dy z (List.mem_of_mem_drop (List.mem_of_mem_take hz))) a0 (List.mem_of_getElem? i1)).weights.le;simp only [Tap.v] at hft
 refine sLpA m1 (l4.up 11 rfl) 0 [I a0.first, .slice a0.weights.a a0.weights.n a0.weights.k] (isAgg97 _) (sizeOf97 _) ?_
 refine sAlloc m1 zeroValue97 ?_
 intro s0 _ m4
 refine sTl m4 0 [I a0.first, .slice a0.weights.a a0.weights.n a0.weights.k] sizeOf97 ?_
 intro _ t2
 refine zS<|pu1 ?_
 refine sL t2 2 0 (I (r.x1-r.x0)) (isAgg3 _) ?_
 refine sMake (kl:= .i64) (kc:= .i64) (enc:=Go.E.encI) (sz:=1) (nb:=8) t2 0 ((r.x1-r.x0)).toNat (r.x1-r.x0) (om:(r.x1-r.x0)=((((r.x1-r.x0)).toNat:Nat):Int)) underlying22 (i:=Try.t3) kr fR ?_
 intro n4 o4 _ p4 u2
 refine pu1<|zQ<|pu1 ?_
 refine sL u2 1 1 (.slice a0.weights.a a0.weights.n a0.weights.k) (isAgg22 _) ?_
 refine pu2<|nT<|blockE ?_
 refine loopA (γ:=Nat×(List (Int×IL))×Chunk×Chunk×(List Int)×(Option Addr)×Nat×Nat×Chunk) (fun ⟨a,rs2,cm2,Gm2,zs,azs,nzs,kzs,czs⟩=>[(5,I sh2),(6,I out),(16,Pt j0 0),(20, .func (.func 68) #[] #[Pt h0 0,Pt f0 0,Pt c0 0,Pt d0 0,Pt g0 0]),(21, .map (some p0)),(22,Pt i0 0),(94, .slice (partAddr ay ky ((r.y0).toNat) 2) ((r.y1).toNat-((r.y0).toNat)) (ky-((r.y0).toNat))),(95,I ((((r.y1).toNat-((r.y0).toNat)):Nat):Int)),(96,I (i:Int)),(24,Pt s0 0),(104, .slice a0.weights.a a0.weights.n a0.weights.k),(105,I (a0.weights.n:Int)),(106,I (a:Int)),(25, .slice azs nzs kzs)]) (fun ⟨a,rs2,cm2,Gm2,zs,azs,nzs,kzs,czs⟩ w=>Sat W w (czs::[(s0, .cells #[I a0.first, .slice a0.weights.a a0.weights.n a0.weights.k] 97 (0,0))]::cps::[(i0, .cells #[I (r.x1-r.x0),I (r.y1-r.y0),I out, .slice aps nps kps] 28 (0,0))]::Gm2::cm2::[(f1, .cells #[I p.w,I p.h,I p.max_] 77 (0,0))]::[(j0, .cells #[I 0,I 0,I 0,nS] 28 (0,0))]::[(h0, .cells (encRct r).toArray 24 (0,0))]::[(g0, .cells #[I sh] 3 (0,0))]::[(f0, .cells #[.slice ax nx kx] 56 (0,0))]::[(d0, .cells #[I e0.policy,I e0.fill] 55 (0,0))]::[(c0, .cells (encPlane p).toArray 28 (0,0))]::H::F)/\a<=a0.weights.n/\(zs=tabN (fun k=>resS p.v e0.policy e0.fill (tapAt (x.map Tap.v) (r.x0+(k:Int))) a0.v sh a) Wn)/\OwnT Go.E.encI 3 1 azs nzs kzs zs czs/\MapI p0 (rs2.map kvR) cm2/\(∀q∈rs2,IL.Ok [Gm2] q.2/\q.2.l.l=tapR p.v e0.policy e0.fill (x.map Tap.v) sh r.x0 q.1 Wn)) (fun ⟨a,rs2,cm2,Gm2,zs,azs,nzs,kzs,czs⟩=>a0.weights.n-a) (0,rs1,cm1,Gm1,(List.replicate ((r.x1-r.x0)).toNat 0),(At n4 0),((r.x1-r.x0)).toNat,((r.x1-r.x0)).toNat,o4) ⟨u2,om,(by rw [show (r.x1-r.x0).toNat=Wn by omega];exact tab_zero (fun _ _=>rfl)),p4,hM1,hr1⟩ ?_
 rintro ⟨a,rs2,cm2,Gm2,zs,azs,nzs,kzs,czs⟩ ρ _ ⟨t0,ha,hzs,hOzs,hM2,hr2⟩
 have hn_zs:=hOzs.len;have hl_zs:=hOzs.le
 refine sR<|pu1<|nT<|seqE ?_
 refine cD ((a:Int)<(a0.weights.n:Int)) (fun q4=>?_) (fun q4=>?_)
 rotate_left
 ·refine exitE<|xB<|tN<|seqE ?_
  have hzs9:zs=tabN (fun k=>resS p.v e0.policy e0.fill (tapAt (x.map Tap.v) (r.x0+(k:Int))) a0.v sh a0.v.weights.length) Wn:=by rw [hzs,show a=a0.v.weights.length from by simp only [Tap.v];omega]
  have hzl9:zs.length=Wn:=by rw [hzs9];exact tab_len _ _
  refine rE<|pu3<|nT<|blockE ?_
  have r4:=(t0.pick 2 rfl)
  refine loopA (γ:=Nat×(List Int)×(Option Addr)×Nat×Nat×Chunk) (fun ⟨j,pt,apt,npt,kpt,cpt⟩=>[(5,I sh2),(6,I out),(16,Pt j0 0),(20, .func (.func 68) #[] #[Pt h0 0,Pt f0 0,Pt c0 0,Pt d0 0,Pt g0 0]),(21, .map (some p0)),(22,Pt i0 0),(94, .slice (partAddr ay ky ((r.y0).toNat) 2) ((r.y1).toNat-((r.y0).toNat)) (ky-((r.y0).toNat))),(95,I ((((r.y1).toNat-((r.y0).toNat)):Nat):Int)),(96,I (i:Int)),(144, .slice azs nzs kzs),(145,I (nzs:Int)),(146,I (j:Int))]) (fun ⟨j,pt,apt,npt,kpt,cpt⟩ w=>Sat W w (cpt::czs::[(s0, .cells #[I a0.first, .slice a0.weights.a a0.weights.n a0.weights.k] 97 (0,0))]::[(i0, .cells #[I (r.x1-r.x0),I (r.y1-r.y0),I out, .slice apt npt kpt] 28 (0,0))]::Gm2::cm2::[(f1, .cells #[I p.w,I p.h,I p.max_] 77 (0,0))]::[(j0, .cells #[I 0,I 0,I 0,nS] 28 (0,0))]::[(h0, .cells (encRct r).toArray 24 (0,0))]::[(g0, .cells #[I sh] 3 (0,0))]::[(f0, .cells #[.slice ax nx kx] 56 (0,0))]::[(d0, .cells #[I e0.policy,I e0.fill] 55 (0,0))]::[(c0, .cells (encPlane p).toArray 28 (0,0))]::H::F)/\j<=Wn/\(pt=gridN Wn f (i*Wn+j))/\OwnT Go.E.encI 3 1 apt npt kpt pt cpt) (fun ⟨j,pt,apt,npt,kpt,cpt⟩=>Wn-j) (0,ps,aps,nps,kps,cps) ⟨r4,om,(by rw [Nat.add_zero];exact hE),hOps⟩ ?_
  rintro ⟨j,pt,apt,npt,kpt,cpt⟩ ρ _ ⟨n1,hj,hE2,hOpt⟩
  have hn_pt:=hOpt.len;have hl_pt:=hOpt.le
  have hptl:pt.length=i*Wn+j:=by rw [hE2,grid_len]
  have hij:i*Wn+j<=Hn*Wn:=by have h1:=Nat.mul_le_mul_right Wn (show i+1<=Hn by omega);rw [Nat.add_mul,Nat.one_mul] at h1;omega
  refine sR<|pu1<|nT<|seqE ?_
  refine cD ((j:Int)<(nzs:Int)) (fun s4=>?_) (fun s4=>?_)
  rotate_left
  ·refine exitE<|xB<|bN<|tN<|rE ?_
   refine sAdd (i:Int) 1 ?_
   refine pu1<|nT ?_
   exact ⟨(i+1,rs2,cm2,Gm2,pt,apt,npt,kpt,cpt),od,alA,(n1.drops [1,1]),om,(by rw [Nat.add_mul,Nat.one_mul,hE2,show j=Wn by omega]),hOpt,hM2,hr2⟩
  refine kT<|seqE<|blockE<|sR ?_
  refine sIdxO hOzs (j:Int) j runUnderlying22 sizeOf3 ?_
  intro u0 _ _ u4 v4 _
  have hsv:u0=resS p.v e0.policy e0.fill (tapAt (x.map Tap.v) (r.x0+(j:Int))) a0.v sh a0.v.weights.length:=by have h:=u4;rw [hzs9,tab_at om] at h;exact (Option.some.inj h).symm
  refine sLp n1 (v4.up 1 rfl) 0 (I u0) (isAgg3 _) ?_
  refine pu1<|nT ?_
  refine drawE [4,6,7,8,10] [(1,⟨i0,3,none⟩, .slice apt npt kpt)] [(true,[0,2,3,5]),(true,[1]),(false,[4]),(false,[6]),(false,[7]),(false,[8]),(true,[9]),(false,[10])] rfl kr ⟨cI n1 3,trivial⟩ ?_
  have w4:=n1.drew
  refine wU [0,2,3,5] ?_
  refine wLd (.slice apt npt kpt) 0 isAgg22 ?_
  refine wO rfl ?_
  refine cR call64 (p7_shift u0 sh2 w4.flat) ?_
  intro _ v2
  refine nilO ⟨⟨cI v2 3,trivial⟩,?_⟩
  refine wO rfl ?_
  refine cR call63 (p7_clamp (shiftV u0 sh2) out v2.flat) ?_
  intro _ w2
  refine nilO ⟨⟨cI w2 3,trivial⟩,?_⟩
  refine wO rfl ?_
  refine sBS w2 #[I (clampV (shiftV u0 sh2) out)] runUnderlying22 sizeOf3 zeroValue3 ?_
  intro _ _ x2
  refine nilO ⟨⟨cI x2 4,trivial⟩,?_⟩
  refine wO rfl ?_
  refine sApp (nb:=8) x2 hOpt 1 (RdT.blk (enc:=Go.E.encI) (sz:=1) (xs:=[(clampV (shiftV u0 sh2) out)]) fR 1 0 rfl rfl rfl om) underlying22 (i:=Try.t3) kr fR ?_
  intro y2 z2 x4 _ y4 z4
  refine nilO ⟨dA,?_⟩
  refine wU [9] ?_
  refine wO rfl ?_
  refine tW z4 4 3 (.slice y2 (npt+1) z2) sizeOf22 ?_
  intro _ a5
  refine nilO ⟨dA,?_⟩
  refine wN ?_
  refine bN<|tN<|rE ?_
  refine sAdd (j:Int) 1 ?_
  refine pu1<|nT ?_
  exact ⟨(j+1,(pt++[(clampV (shiftV u0 sh2) out)]),y2,(npt+1),z2,x4),od,alA,(a5.dropAt 0 rfl),om,(by rw [<-Nat.add_assoc,grid_succ om,<-hE2,hf];dsimp only;unfold resX;rw [hta,<-hsv]),y4⟩
 refine kT<|seqE<|blockE<|sR<|pu1 ?_
 refine sIdx ((fun z hz=>dy z (List.mem_of_mem_drop (List.mem_of_mem_take hz))) a0 (List.mem_of_getElem? i1)).weights (a:Int) runUnderlying22 sizeOf3 ?_
 intro b0 _ _ z1 c5
 rw [Int.toNat_natCast] at z1
 have hwx:=areW_at hft.2.2 z1;have hwv:a0.v.weights[a]?=some b0:=z1
 refine sLp t0 (c5.up 13 rfl) 0 (I b0) (isAgg3 _) ?_
 refine pu2<|zS<|pu1 ?_
 refine sL t0 1 0 (I a0.first) (isAgg3 _) ?_
 refine pu1 ?_
 refine sAdd a0.first (a:Int) ?_
 refine pu1<|zQ<|pu2 ?_
 obtain ⟨k0,v0⟩:∃m:IL,(rget rs2 (a0.first+(a:Int))).getD zIL=m:=⟨_,rfl⟩
 refine stepY (.slice k0.l.a k0.l.n k0.l.k) rfl rfl (Y_iget (k:=(a0.first+(a:Int))) t0 5 hM2 (look_v _ _ v0) runUnderlying99 runUnderlying3 zeroValue22) ?_
 refine stepY (.bool (decide (k0.l.a=none))) rfl rfl (Y_eqS rfl kr kr (eqvs22 _ k0.l.a k0.l.n k0.l.k)) ?_
 refine nT ?_
 refine cD (k0.l.a=none) (fun a2=>?_) (fun a2=>?_)
 rotate_left
 ·refine kT<|seqE ?_
  have d5:rget rs2 (a0.first+(a:Int))=some k0:=by
   cases e9:rget rs2 (a0.first+(a:Int)) with
   |none=>exfalso;rw [e9] at v0;exact a2 (by rw [<-v0];rfl)
   |some z9=>rw [e9] at v0;exact congrArg some v0
  refine rE<|pu2 ?_
  obtain ⟨l0,b2⟩:∃m:IL,(rget rs2 (a0.first+(a:Int))).getD zIL=m:=⟨_,rfl⟩
  refine stepY (.slice l0.l.a l0.l.n l0.l.k) rfl rfl (Y_iget (k:=(a0.first+(a:Int))) t0 5 hM2 (look_v _ _ b2) runUnderlying99 runUnderlying3 zeroValue22) ?_
  have e5:rget rs2 (a0.first+(a:Int))=some l0:=(by rw [d5] at b2⊢;exact congrArg some b2)
  have o1:=hr2 _ (rget_mem e5)
  have hnr:l0.l.n=Wn:=by have h:=o1.1.l.len;rw [o1.2,tapR,tab_len] at h;exact h.symm
  refine pu2<|nT<|blockE ?_
  refine loopA (γ:=Nat×(List Int)×(Option Addr)×Nat×Nat×Chunk) (fun ⟨u,zu,azu,nzu,kzu,czu⟩=>[(5,I sh2),(6,I out),(16,Pt j0 0),(20, .func (.func 68) #[] #[Pt h0 0,Pt f0 0,Pt c0 0,Pt d0 0,Pt g0 0]),(21, .map (some p0)),(22,Pt i0 0),(94, .slice (partAddr ay ky ((r.y0).toNat) 2) ((r.y1).toNat-((r.y0).toNat)) (ky-((r.y0).toNat))),(95,I ((((r.y1).toNat-((r.y0).toNat)):Nat):Int)),(96,I (i:Int)),(24,Pt s0 0),(104, .slice a0.weights.a a0.weights.n a0.weights.k),(105,I (a0.weights.n:Int)),(106,I (a:Int)),(27,I b0),(126, .slice l0.l.a l0.l.n l0.l.k),(127,I (l0.l.n:Int)),(128,I (u:Int)),(25, .slice azu nzu kzu)]) (fun ⟨u,zu,azu,nzu,kzu,czu⟩ w=>Sat W w (czu::[(s0, .cells #[I a0.first, .slice a0.weights.a a0.weights.n a0.weights.k] 97 (0,0))]::cps::[(i0, .cells #[I (r.x1-r.x0),I (r.y1-r.y0),I out, .slice aps nps kps] 28 (0,0))]::Gm2::cm2::[(f1, .cells #[I p.w,I p.h,I p.max_] 77 (0,0))]::[(j0, .cells #[I 0,I 0,I 0,nS] 28 (0,0))]::[(h0, .cells (encRct r).toArray 24 (0,0))]::[(g0, .cells #[I sh] 3 (0,0))]::[(f0, .cells #[.slice ax nx kx] 56 (0,0))]::[(d0, .cells #[I e0.policy,I e0.fill] 55 (0,0))]::[(c0, .cells (encPlane p).toArray 28 (0,0))]::H::F)/\u<=Wn/\(zu=mixN (fun k=>resS p.v e0.policy e0.fill (tapAt (x.map Tap.v) (r.x0+(k:Int))) a0.v sh (a+1)) (fun k=>resS p.v e0.policy e0.fill (tapAt (x.map Tap.v) (r.x0+(k:Int))) a0.v sh a) u Wn)/\OwnT Go.E.encI 3 1 azu nzu kzu zu czu) (fun ⟨u,zu,azu,nzu,kzu,czu⟩=>Wn-u) (0,zs,azs,nzs,kzs,czs) ⟨t0,om,(by rw [mix_0];exact hzs),hOzs⟩ ?_
  rintro ⟨u,zu,azu,nzu,kzu,czu⟩ ρ _ ⟨q1,hu,hzu,hOzu⟩
  have hn_zu:=hOzu.len;have hl_zu:=hOzu.le
  have hzl:zu.length=Wn:=by rw [hzu];exact mix_len _ _ _ _
  refine sR<|pu1<|nT<|seqE ?_
  refine cD ((u:Int)<(l0.l.n:Int)) (fun f5=>?_) (fun f5=>?_)
  rotate_left
  ·refine exitE<|xB<|bN<|tN<|rE ?_
   refine sAdd (a:Int) 1 ?_
   refine pu1<|nT ?_
   exact ⟨(a+1,rs2,cm2,Gm2,zu,azu,nzu,kzu,czu),od,alA,q1,om,(by rw [hzu,show u=Wn by omega];exact mix_n _ _ _),hOzu,hM2,hr2⟩
  refine kT<|seqE<|blockE<|sR<|pu1 ?_
  refine sIdx o1.1.l (u:Int) runUnderlying22 sizeOf3 ?_
  intro q0 _ _ a3 g5
  rw [Int.toNat_natCast] at a3
  have hgv:q0=tapV p.v e0.policy e0.fill (tapAt (x.map Tap.v) (r.x0+(u:Int))) sh (a0.first+(a:Int)):=by have h:=a3;rw [o1.2,tapR,tab_at om] at h;exact (Option.some.inj h).symm
  have hxu:tapAt (x.map Tap.v) (r.x0+(u:Int))∈(x.map Tap.v):=by unfold tapAt;rw [List.getElem?_eq_getElem om];exact List.getElem_mem _
  have hgb:=tap_bd hpo hev (s:=sh) (k:=(a0.first+(a:Int))) hcc hxu htm;rw [<-hgv] at hgb;have hpm:=wmul_bd (v:=q0) (B:=68719476736) hwx hgb (by decide)
  refine sLp q1 (g5.up 4 rfl) 0 (I q0) (isAgg3 _) ?_
  refine pu2<|nT<|rE<|pu2 ?_
  refine sIdxO hOzu (u:Int) u runUnderlying22 sizeOf3 ?_
  intro m0 _ _ b3 h5 _
  have hzv:m0=resS p.v e0.policy e0.fill (tapAt (x.map Tap.v) (r.x0+(u:Int))) a0.v sh a:=by have h:=b3;rw [hzu,mix_at om] at h;exact (Option.some.inj h).symm
  have hsb:=res_part hpo hev hcc hxu htm (n:=a) (by simp only [Tap.v];omega);rw [<-hzv] at hsb
  refine sLp q1 (h5.up 0 rfl) 0 (I m0) (isAgg3 _) ?_
  refine pu2 ?_
  refine sMul b0 q0 ?_
  refine sAdd m0 (b0*q0) ?_
  refine sIdxO hOzu (u:Int) u runUnderlying22 sizeOf3 ?_
  intro i5 _ _ c2 _ j5
  obtain rfl:m0=i5:=Option.some.inj (b3.symm.trans c2)
  have hzv:m0=resS p.v e0.policy e0.fill (tapAt (x.map Tap.v) (r.x0+(u:Int))) a0.v sh a:=by have h:=c2;rw [hzu,mix_at om] at h;exact (Option.some.inj h).symm
  have hsb:=res_part hpo hev hcc hxu htm (n:=a) (by simp only [Tap.v];omega);rw [<-hzv] at hsb
  refine sStF q1 hOzu j5 0 u 0 m0 (m0+(b0*q0)) c2 (I (m0+(b0*q0))) [I (m0+(b0*q0))] sizeOf3 ?_
  intro _ k5 l5 m5
  refine nB<|rE ?_
  refine sAdd (u:Int) 1 ?_
  refine pu1<|nT ?_
  exact ⟨(u+1,(zu.set u (m0+(b0*q0))),azu,nzu,kzu,k5),od,alA,m5,om,(by rw [hzu];exact mix_set (rmix_at (n:=Wn) hwv om hzv (by rw [hgv];rfl))),l5⟩
 refine rE<|pu4 ?_
 have n5:=(t0.picks [9,11,12,12,12])
 refine cXc #[Pt h0 0,Pt f0 0,Pt c0 0,Pt d0 0,Pt g0 0] call68 (p11_row (a0.first+(a:Int)) h0 f0 c0 d0 g0 p e0 ax nx kx x sh r ⟨(RdT.flat (hp.pix.up 8 (by rfl)))⟩ (RdT.flat (hx.up 8 (by rfl))) (fun z hz=>(dx z hz).of_mem (mem_flat1 8 (by rfl))) hpo hev om hbX hfX (sat_flat5 n5)) ?_
 rintro _ _ ⟨w0,z0,a1,d1,d2,rfl,e2,c3,o5⟩
 have p5:=sat_unflat6 o5
 have hn_az_97:=e2.len;have hl_az_97:=e2.le
 have d3:rget rs2 (a0.first+(a:Int))=none:=by
  cases e9:rget rs2 (a0.first+(a:Int)) with
  |none=>rfl
  |some z9=>exfalso;rw [e9] at v0;have h9:=hr2 _ (rget_mem e9);have e8:z9=k0:=v0;rw [e8] at h9;have h7:=h9.1.l.len;rw [h9.2,tapR,tab_len] at h7;exact rd_some h9.1.l om a2
 refine sIAdd (k:=(a0.first+(a:Int))) (v:= .slice w0 z0 a1) p5 11 hM2 (by rw [iget_map,d3];rfl) runUnderlying99 runUnderlying3 ?_
 intro f2 _ q5 r5
 have s5:=(r5.picks [10,1])
 have e3:=s5.merge2
 have f3:MapI p0 ((rs2++[((a0.first+(a:Int)),(⟨⟨w0,z0,a1,d1⟩⟩:IL))]).map kvR) f2:=by rw [List.map_append];exact q5
 have g3:∀q∈(rs2++[((a0.first+(a:Int)),(⟨⟨w0,z0,a1,d1⟩⟩:IL))]),IL.Ok [(d2++Gm2)] q.2/\q.2.l.l=tapR p.v e0.policy e0.fill (x.map Tap.v) sh r.x0 q.1 Wn:=by
  intro q hq
  rcases List.mem_append.1 hq with h9|h9
  ·exact ⟨(hr2 q h9).1.of_mem mS,(hr2 q h9).2⟩
  ·simp only [List.mem_singleton] at h9;subst h9;exact ⟨⟨e2.of_mem mS⟩,by rw [show (r.x1-r.x0).toNat=Wn by omega] at c3;exact c3⟩
 refine zS<|pu2 ?_
 obtain ⟨n0,g2⟩:∃m:IL,(rget (rs2++[((a0.first+(a:Int)),(⟨⟨w0,z0,a1,d1⟩⟩:IL))]) (a0.first+(a:Int))).getD zIL=m:=⟨_,rfl⟩
 refine stepY (.slice n0.l.a n0.l.n n0.l.k) rfl rfl (Y_iget (k:=(a0.first+(a:Int))) e3 10 f3 (look_v _ _ g2) runUnderlying99 runUnderlying3 zeroValue22) ?_
 have t5:rget (rs2++[((a0.first+(a:Int)),(⟨⟨w0,z0,a1,d1⟩⟩:IL))]) (a0.first+(a:Int))=some n0:=(by have e9:=rget_push (m:=(⟨⟨w0,z0,a1,d1⟩⟩:IL)) d3;rw [e9] at g2⊢;exact congrArg some g2)
 have r1:=g3 _ (rget_mem t5)
 have hnr:n0.l.n=Wn:=by have h:=r1.1.l.len;rw [r1.2,tapR,tab_len] at h;exact h.symm
 refine pu2<|nT<|blockE ?_
 have u5:=(e3.pick 6 rfl)
 refine loopA (γ:=Nat×(List Int)×(Option Addr)×Nat×Nat×Chunk) (fun ⟨u,zu,azu,nzu,kzu,czu⟩=>[(5,I sh2),(6,I out),(16,Pt j0 0),(20, .func (.func 68) #[] #[Pt h0 0,Pt f0 0,Pt c0 0,Pt d0 0,Pt g0 0]),(21, .map (some p0)),(22,Pt i0 0),(94, .slice (partAddr ay ky ((r.y0).toNat) 2) ((r.y1).toNat-((r.y0).toNat)) (ky-((r.y0).toNat))),(95,I ((((r.y1).toNat-((r.y0).toNat)):Nat):Int)),(96,I (i:Int)),(24,Pt s0 0),(104, .slice a0.weights.a a0.weights.n a0.weights.k),(105,I (a0.weights.n:Int)),(106,I (a:Int)),(27,I b0),(126, .slice n0.l.a n0.l.n n0.l.k),(127,I (n0.l.n:Int)),(128,I (u:Int)),(25, .slice azu nzu kzu)]) (fun ⟨u,zu,azu,nzu,kzu,czu⟩ w=>Sat W w (czu::(d2++Gm2)::[(h0, .cells (encRct r).toArray 24 (0,0))]::[(f0, .cells #[.slice ax nx kx] 56 (0,0))]::[(c0, .cells (encPlane p).toArray 28 (0,0))]::[(d0, .cells #[I e0.policy,I e0.fill] 55 (0,0))]::[(g0, .cells #[I sh] 3 (0,0))]::[(s0, .cells #[I a0.first, .slice a0.weights.a a0.weights.n a0.weights.k] 97 (0,0))]::cps::[(i0, .cells #[I (r.x1-r.x0),I (r.y1-r.y0),I out, .slice aps nps kps] 28 (0,0))]::f2::[(f1, .cells #[I p.w,I p.h,I p.max_] 77 (0,0))]::[(j0, .cells #[I 0,I 0,I 0,nS] 28 (0,0))]::H::F)/\u<=Wn/\(zu=mixN (fun k=>resS p.v e0.policy e0.fill (tapAt (x.map Tap.v) (r.x0+(k:Int))) a0.v sh (a+1)) (fun k=>resS p.v e0.policy e0.fill (tapAt (x.map Tap.v) (r.x0+(k:Int))) a0.v sh a) u Wn)/\OwnT Go.E.encI 3 1 azu nzu kzu zu czu) (fun ⟨u,zu,azu,nzu,kzu,czu⟩=>Wn-u) (0,zs,azs,nzs,kzs,czs) ⟨u5,om,(by rw [mix_0];exact hzs),hOzs⟩ ?_
 rintro ⟨u,zu,azu,nzu,kzu,czu⟩ ρ _ ⟨s1,hu,hzu,hOzu⟩
 have hn_zu:=hOzu.len;have hl_zu:=hOzu.le
 have hzl:zu.length=Wn:=by rw [hzu];exact mix_len _ _ _ _
 refine sR<|pu1<|nT<|seqE ?_
 refine cD ((u:Int)<(n0.l.n:Int)) (fun v5=>?_) (fun v5=>?_)
 rotate_left
 ·refine exitE<|xB<|bN<|tN<|rE ?_
  refine sAdd (a:Int) 1 ?_
  refine pu1<|nT ?_
  exact ⟨(a+1,(rs2++[((a0.first+(a:Int)),(⟨⟨w0,z0,a1,d1⟩⟩:IL))]),f2,(d2++Gm2),zu,azu,nzu,kzu,czu),od,alA,(s1.picks [5,4,6,5,12,12,12,8,12,12,12,11]),om,(by rw [hzu,show u=Wn by omega];exact mix_n _ _ _),hOzu,f3,g3⟩
 refine kT<|seqE<|blockE<|sR<|pu1 ?_
 refine sIdx r1.1.l (u:Int) runUnderlying22 sizeOf3 ?_
 intro r0 _ _ h3 x5
 rw [Int.toNat_natCast] at h3
 have hgv:r0=tapV p.v e0.policy e0.fill (tapAt (x.map Tap.v) (r.x0+(u:Int))) sh (a0.first+(a:Int)):=by have h:=h3;rw [r1.2,tapR,tab_at om] at h;exact (Option.some.inj h).symm
 have hxu:tapAt (x.map Tap.v) (r.x0+(u:Int))∈(x.map Tap.v):=by unfold tapAt;rw [List.getElem?_eq_getElem om];exact List.getElem_mem _
 have hgb:=tap_bd hpo hev (s:=sh) (k:=(a0.first+(a:Int))) hcc hxu htm;rw [<-hgv] at hgb;have hpm:=wmul_bd (v:=r0) (B:=68719476736) hwx hgb (by decide)
 refine sLp s1 (x5.up 1 rfl) 0 (I r0) (isAgg3 _) ?_
 refine pu2<|nT<|rE<|pu2 ?_
 refine sIdxO hOzu (u:Int) u runUnderlying22 sizeOf3 ?_
 intro o0 _ _ i3 y5 _
 have hzv:o0=resS p.v e0.policy e0.fill (tapAt (x.map Tap.v) (r.x0+(u:Int))) a0.v sh a:=by have h:=i3;rw [hzu,mix_at om] at h;exact (Option.some.inj h).symm
 have hsb:=res_part hpo hev hcc hxu htm (n:=a) (by simp only [Tap.v];omega);rw [<-hzv] at hsb
 refine sLp s1 (y5.up 0 rfl) 0 (I o0) (isAgg3 _) ?_
 refine pu2 ?_
 refine sMul b0 r0 ?_
 refine sAdd o0 (b0*r0) ?_
 refine sIdxO hOzu (u:Int) u runUnderlying22 sizeOf3 ?_
 intro z5 _ _ i2 _ a6
 obtain rfl:o0=z5:=Option.some.inj (i3.symm.trans i2)
 have hzv:o0=resS p.v e0.policy e0.fill (tapAt (x.map Tap.v) (r.x0+(u:Int))) a0.v sh a:=by have h:=i2;rw [hzu,mix_at om] at h;exact (Option.some.inj h).symm
 have hsb:=res_part hpo hev hcc hxu htm (n:=a) (by simp only [Tap.v];omega);rw [<-hzv] at hsb
 refine sStF s1 hOzu a6 0 u 0 o0 (o0+(b0*r0)) i2 (I (o0+(b0*r0))) [I (o0+(b0*r0))] sizeOf3 ?_
 intro _ b6 c6 d6
 refine nB<|rE ?_
 refine sAdd (u:Int) 1 ?_
 refine pu1<|nT ?_
 exact ⟨(u+1,(zu.set u (o0+(b0*r0))),azu,nzu,kzu,b6),od,alA,d6,om,(by rw [hzu];exact mix_set (rmix_at (n:=Wn) hwv om hzv (by rw [hgv];rfl))),c6⟩
end Go.Proofs.Ytmlhcafjelkjfaa
