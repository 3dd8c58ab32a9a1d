import Derived.Test.YtmlhcafjelkjfaaP1Ab
import Derived.WalkKit
import Derived.Deep.Quiet
import Derived.KernelRfl
import Derived.Laws.BytesString
import Derived.Laws.Shifts
import Derived.Laws.IdiomStrings
import Derived.Test.YtmlhcafjelkjfaaProg
import Derived.Laws.IdiomRangeMap
import Derived.Test.YtmlhcafjelkjfaaP1Tp
namespace Go.Proofs.Ytmlhcafjelkjfaa
open Go Go.E Go.Proofs.Try
set_option linter.all false
set_option maxRecDepth 100000
set_option maxHeartbeats 2000000
variable {W w:World} {H:Chunk} {F:List Chunk}
def tabN {α:Type} (f:Nat->α) (n:Nat):List α:=(List.range n).map f
theorem tab_len {α:Type} (f:Nat->α) (n:Nat):(tabN f n).length=n:=by simp [tabN]
theorem tab_succ {α:Type} (f:Nat->α) (n:Nat):tabN f (n+1)=tabN f n++[f n]:=by unfold tabN;rw [List.range_succ,List.map_append];rfl
theorem tab_at {α:Type} {f:Nat->α} {n k:Nat} (h:k<n):(tabN f n)[k]?=some (f k):=by unfold tabN;rw [List.getElem?_map,List.getElem?_range h];rfl
theorem tab_congr {α:Type} {f g:Nat->α} {n:Nat} (h:∀k,k<n->f k=g k):tabN f n=tabN g n:=by unfold tabN;exact List.map_congr_left (fun k hk=>h k (List.mem_range.1 hk))
theorem tab_zero {n:Nat} {α:Type} {z:α} {f:Nat->α} (h:∀k,k<n->f k=z):List.replicate n z=tabN f n:=by
  apply List.ext_getElem?
  intro k
  by_cases hk:k<n
  · rw [tab_at hk,h k hk,List.getElem?_replicate,if_pos hk]
  · rw [List.getElem?_eq_none (by simp;omega),List.getElem?_eq_none (by rw [tab_len];omega)]
def mixN {α:Type} (f g:Nat->α) (i n:Nat):List α:=tabN (fun k=>if k<i then f k else g k) n
theorem mix_len {α:Type} (f g:Nat->α) (i n:Nat):(mixN f g i n).length=n:=tab_len _ _
theorem mix_0 {α:Type} (f g:Nat->α) (n:Nat):mixN f g 0 n=tabN g n:=tab_congr (fun k _=>by rw [if_neg (by omega)])
theorem mix_n {α:Type} (f g:Nat->α) (n:Nat):mixN f g n n=tabN f n:=tab_congr (fun k hk=>by rw [if_pos hk])
theorem mix_at {α:Type} {f g:Nat->α} {i n:Nat} (h:i<n):(mixN f g i n)[i]?=some (g i):=by unfold mixN;rw [tab_at h,if_neg (Nat.lt_irrefl _)]
theorem mix_set {α:Type} {f g:Nat->α} {i n:Nat} {v:α} (hv:v=f i):(mixN f g i n).set i v=mixN f g (i+1) n:=by
 apply List.ext_getElem?
 intro k
 rw [List.getElem?_set]
 by_cases hk:k<n
 ·unfold mixN
  rw [tab_at hk,tab_at hk,tab_len]
  by_cases he:i=k
  ·subst he;rw [if_pos rfl,if_pos hk,if_pos om,hv]
  ·rw [if_neg he]
   by_cases h2:k<i
   ·rw [if_pos h2,if_pos om]
   ·rw [if_neg h2,if_neg om]
 ·rw [List.getElem?_eq_none (l:=mixN f g (i+1) n) (by rw [mix_len];omega),List.getElem?_eq_none (l:=mixN f g i n) (by rw [mix_len];omega)]
  split
  ·rename_i h;subst h;rw [if_neg (by rw [mix_len];omega)]
  ·rfl
theorem fill_setG {α:Type} {z:α} {l:List α} {n m:Nat} {v:α} (h:l.length=n) (hm:n<m):(l++List.replicate (m-n) z).set n v=(l++[v])++List.replicate (m-(n+1)) z:=by
  subst h
  obtain ⟨k,rfl⟩:∃k,m=l.length+1+k:=⟨m-l.length-1,by omega⟩
  rw [show l.length+1+k-l.length=k+1 by omega,show l.length+1+k-(l.length+1)=k by omega,List.set_append_right _ _ (Nat.le_refl _),Nat.sub_self,List.replicate_succ,List.set_cons_zero,List.append_assoc];rfl
def pxR (p:PlaneV) (pol fill x y:Int) (n:Nat):List Int:=tabN (fun k=>pixV p pol fill (x+(k:Int)) y) n
def midR (p:PlaneV) (pol fill:Int) (row:List Int) (sh x y:Int) (n:Nat):List Int:=tabN (fun k=>midV p pol fill row sh (x+(k:Int)) y) n
theorem pxR_len (p:PlaneV) (pol fill x y:Int) (n:Nat):(pxR p pol fill x y n).length=n:=tab_len _ _
theorem midR_len (p:PlaneV) (pol fill:Int) (row:List Int) (sh x y:Int) (n:Nat):(midR p pol fill row sh x y n).length=n:=tab_len _ _
theorem mid_succ {p:PlaneV} {pol fill x y w:Int} {row:List Int} {i:Nat} (hw:row[i]?=some w):midS p pol fill row x y (i+1)=midS p pol fill row x y i+w*pixV p pol fill (x+(i:Int)-(row.length:Int)/2) y:=by
  unfold midS;rw [sumN_succ,List.getD_eq_getElem?_getD,hw];rfl
theorem sep_succ {p:PlaneV} {pol fill sh x y w:Int} {row col:List Int} {j:Nat} (hw:col[j]?=some w):sepS p pol fill row col sh x y (j+1)=sepS p pol fill row col sh x y j+w*midV p pol fill row sh x (y+(j:Int)-(col.length:Int)/2):=by
  unfold sepS;rw [sumN_succ,List.getD_eq_getElem?_getD,hw];rfl
theorem pix_eq {p:PlaneV} {pol fill x y x2 y2:Int} (hx:x=x2) (hy:y=y2):pixV p pol fill x y=pixV p pol fill x2 y2:=by rw [hx,hy]
theorem mid_eq {p:PlaneV} {pol fill sh x y y2:Int} {row:List Int} (hy:y=y2):midV p pol fill row sh x y=midV p pol fill row sh x y2:=by rw [hy]
theorem tapS_succ {p:PlaneV} {pol fill k w:Int} {t:TapV} {i:Nat} (hw:t.weights[i]?=some w):tapS p pol fill t k (i+1)=tapS p pol fill t k i+w*pixV p pol fill (t.first+(i:Int)) k:=by
  unfold tapS;rw [sumN_succ,List.getD_eq_getElem?_getD,hw];rfl
theorem resS_succ {p:PlaneV} {pol fill sh w:Int} {s t:TapV} {j:Nat} (hw:t.weights[j]?=some w):resS p pol fill s t sh (j+1)=resS p pol fill s t sh j+w*tapV p pol fill s sh (t.first+(j:Int)):=by
  unfold resS;rw [sumN_succ,List.getD_eq_getElem?_getD,hw];rfl
def tapR (p:PlaneV) (pol fill:Int) (x:List TapV) (sh x0 k:Int) (n:Nat):List Int:=tabN (fun u=>tapV p pol fill (tapAt x (x0+(u:Int))) sh k) n
theorem tapAt_eq {l:List TapV} {i:Int} {t:TapV} (h:l[i.toNat]?=some t):tapAt l i=t:=by unfold tapAt;rw [h];rfl
theorem inc_set {c:List Int} {k:Int} {v:Int} (h:c[k.toNat]?=some v):c.set k.toNat (v+1)=incV c k:=by unfold incV;rw [List.getD_eq_getElem?_getD,h];rfl
theorem pixAt_eq {p:PlaneV} {x y v:Int} (h:p.pix[(y*p.w+x).toNat]?=some v):pixAt p x y=v:=by unfold pixAt;rw [List.getD_eq_getElem?_getD,h];rfl
theorem colS_succ {p:PlaneV} {x y:Int} {n:Nat}:colS p x y (n+1)=colS p x y n+pixAt p x (y+(n:Int)):=by unfold colS;rw [sumN_succ]
theorem recS_succ {p:PlaneV} {x y:Int} {i j:Nat}:recS p x y (i+1) j=recS p x y i j+colS p (x+(i:Int)) y j:=by unfold recS;rw [sumN_succ]
theorem inM_f {m:Int} {l:List Int} {i:Nat} {v:Int} (h:l[i]?=some v) (hv:¬(0<=v/\v<=m)):¬inM m l=true:=by
  unfold inM;intro e
  exact hv (of_decide_eq_true (List.all_eq_true.1 e v (List.mem_of_getElem? h)))
structure IL where
  l:Sl Int
def encIL (x:IL):List Value:=[.slice x.l.a x.l.n x.l.k]
structure ILV where
  l:List Int
  deriving DecidableEq
def IL.v (x:IL):ILV:=⟨x.l.l⟩
structure IL.Ok (cs:List Chunk) (q:IL):Prop where
  l:RdT Go.E.encI 1 cs q.l.a q.l.n q.l.k q.l.l
theorem IL.Ok.of_mem {cs cs':List Chunk} {x:IL} (h:IL.Ok cs x) (hm:∀p∈cs.flatten,p∈cs'.flatten):IL.Ok cs' x:=⟨h.l.of_mem hm⟩
theorem own_setSame {α:Type} {enc:α->List Value} {E sz:Nat} {a:Option Addr} {n k i:Nat} {xs:List α} {x y:α} {c:Chunk} (h:OwnT enc E sz a n k (xs.set i x) c) (e:enc x=enc y):OwnT enc E sz a n k (xs.set i y) c:=by
  have e2:(xs.set i x).flatMap enc=(xs.set i y).flatMap enc:=by rw [List.flatMap_def,List.flatMap_def,List.map_set,List.map_set,e]
  obtain ⟨h1,h2,h3⟩:=h
  rw [e2] at h3
  exact ⟨by rw [<-h1,List.length_set,List.length_set],h2,h3⟩
theorem rows_at {ms:List IL} {f:Nat->List Int} {n k:Nat} {x:IL} (h:ms.map (fun z=>z.l.l)=tabN f n) (hx:ms[k]?=some x) (hk:k<n):x.l.l=f k:=by
  have e:=congrArg (fun l=>l[k]?) h
  simp only [List.getElem?_map,hx,Option.map_some,tab_at hk] at e
  exact Option.some.inj e
theorem p10_pixels (p : Plane) (e0 : Edge) (x : Int) (y : Int) (cnt : Int) (hp : Plane.Ok [H] p) (hpo : planeOK p.v = true) (hev : edgeV e0.policy e0.fill p.max_) (hcn : 0 <= cnt /\ cnt <= 1000) (hxy : -1000000 <= x /\ x <= 1000000) (hS : Sat W w (H :: F)) :
  Calls prog 66 #[.agg (encPlane p).toArray, .agg #[I e0.policy, I e0.fill], I x, I y, I cnt] w fun e w' => ∃ (az : Option Addr) (nz kz : Nat) (zs : List Int) (G : Chunk), e = .returned (.slice az nz kz) /\ RdT Go.E.encI 1 [G] az nz kz zs /\ zs = pxR p.v e0.policy e0.fill x y cnt.toNat /\ Sat W w' (G :: H :: F) := by
 have hl_p_pix := hp.pix.le; have hn_p_pix := hp.pix.len
 have hsz := (plane_sz hpo).1; unfold sizeP at hsz; simp only [Plane.v] at hsz; have hpl : p.v.pix.length = p.pix.n := hn_p_pix; obtain ⟨N, hN⟩ : ∃ k : Nat, cnt = (k : Int) := ⟨_, (Int.toNat_of_nonneg om).symm⟩
 refine callsA 68 func66 rfl <| sR <| sBox hS (.agg (encPlane p).toArray) (encPlane p).toArray fun f0 _ h0 => sBox h0 (.agg #[I e0.policy, I e0.fill]) #[I e0.policy, I e0.fill] fun g0 _ i0 => pu1 <| zS <| pu1 <| sMake (kl := .i64) (kc := .i64) (enc := Go.E.encI) (sz := 1) (nb := 8) i0 0 (cnt).toNat cnt (om : cnt = (((cnt).toNat : Nat) : Int)) underlying22 (i := Try.t3) kr fR fun j0 k0 _ l0 d0 => pu1 <| zS <| pu2 <| sL d0 2 1 (I p.h) (isAgg3 _) <| pu1 <| sL d0 1 0 (I e0.policy) (isAgg3 _) <| cR call79 (p3_index y p.h e0.policy d0.flat) fun _ m0 => pu5 <| zQ <| pu3 <| nT <| blockE ?_
 refine loopA (γ := Nat × (List Int) × (Option Addr) × Nat × Nat × Chunk) (fun ⟨i, zs, azs, nzs, kzs, czs⟩ => [(2, I x), (5, Pt f0 0), (6, Pt g0 0), (12, I ((idxV y p.h e0.policy).getD 0)), (13, .bool ((idxV y p.h e0.policy).isSome)), (29, I (((cnt).toNat : Nat) : Int)), (30, I (i : Int)), (11, .slice azs nzs kzs)]) (fun ⟨i, zs, azs, nzs, kzs, czs⟩ w => Sat W w (czs :: [(g0, .cells #[I e0.policy, I e0.fill] 55 (0, 0))] :: [(f0, .cells (encPlane p).toArray 28 (0, 0))] :: H :: F) /\ i <= N /\ (zs.length = N) /\ (zs = pxR p.v e0.policy e0.fill x y i ++ List.replicate (N - i) 0) /\ OwnT Go.E.encI 3 1 azs nzs kzs zs czs) (fun ⟨i, zs, azs, nzs, kzs, czs⟩ => N - i) (0, (List.replicate (cnt).toNat 0), (At j0 0), (cnt).toNat, (cnt).toNat, k0) ⟨m0, om, (by rw [List.length_replicate]; omega), (by rw [show (cnt).toNat = N by omega]; rfl), l0⟩ ?_
 rintro ⟨i, zs, azs, nzs, kzs, czs⟩ ρ _ ⟨c0, hi, hzl, hE, hOzs⟩
 have hn_zs := hOzs.len; have hl_zs := hOzs.le
 refine sR <| pu1 <| nT <| seqE <| cD ((i : Int) < (((cnt).toNat : Nat) : Int)) (fun n0 => ?_) (fun n0 => ?_)
 rotate_left
 ·refine exitE <| xB <| tN <| sR <| pu2 <| zE <| retT [.slice azs nzs kzs] ?_
  have hz9 : zs = pxR p.v e0.policy e0.fill x y N := by rw [hE, show i = N by omega, Nat.sub_self, List.replicate_zero, List.append_nil]
  exact ⟨azs, nzs, kzs, zs, _, rfl, (hOzs.rdAt (cs := [czs]) 0 rfl), (by rw [show cnt.toNat = N by omega]; exact hz9), (c0.drops [1, 1])⟩
 refine kT <| seqE <| blockE <| sR <| pu2 <| zS <| pu2 <| sAdd x (i : Int) <| pu1 <| sL c0 2 0 (I p.w) (isAgg3 _) <| pu1 <| sL c0 1 0 (I e0.policy) (isAgg3 _) <| cR call79 (p3_index (x + (i : Int)) p.w e0.policy c0.flat) fun _ a0 => pu5 <| zS <| pu2 <| sB 45 ((idxV (x + (i : Int)) p.w e0.policy).isSome) (fun p0 => ?_) (fun p0 => ?_)
 rotate_left
 ·exact pu2 <| nT <| cFf <| rE <| pu3 <| sL a0 1 1 (I e0.fill) (isAgg3 _) <| sIdxO hOzs (i : Int) i runUnderlying22 sizeOf3 fun q0 _ _ r0 _ s0 => sStF a0 hOzs s0 0 i 0 q0 e0.fill r0 (I e0.fill) [I e0.fill] sizeOf3 fun _ t0 u0 v0 => nB <| rE <| sAdd (i : Int) 1 <| pu1 <| nT <| ⟨(i + 1, (zs.set i e0.fill), azs, nzs, kzs, t0), od, alA, v0, om, (by rw [List.length_set]; exact hzl), (by rw [hE, fill_set (pxR_len _ _ _ _ _ _) om, pxR, pxR, tab_succ, pixV_fill (p := p.v) (by first | exact .inl ‹_› | exact .inr ‹_›)]), u0⟩
 refine pu2 <| nT <| cB ((idxV y p.h e0.policy).isSome) (fun w0 => ?_) (fun w0 => ?_)
 rotate_left
 ·exact rE <| pu3 <| sL a0 1 1 (I e0.fill) (isAgg3 _) <| sIdxO hOzs (i : Int) i runUnderlying22 sizeOf3 fun x0 _ _ y0 _ z0 => sStF a0 hOzs z0 0 i 0 x0 e0.fill y0 (I e0.fill) [I e0.fill] sizeOf3 fun _ a1 b1 c1 => nB <| rE <| sAdd (i : Int) 1 <| pu1 <| nT <| ⟨(i + 1, (zs.set i e0.fill), azs, nzs, kzs, a1), od, alA, c1, om, (by rw [List.length_set]; exact hzl), (by rw [hE, fill_set (pxR_len _ _ _ _ _ _) om, pxR, pxR, tab_succ, pixV_fill (p := p.v) (by first | exact .inl ‹_› | exact .inr ‹_›)]), b1⟩
 have hpy := idx_some (i := y) (n := p.h) (p := e0.policy) ‹_›; have hpx := idx_some (i := x + (i : Int)) (n := p.w) (p := e0.policy) ‹_›; have hix := pl_ix hpo hpx hpy; rw [hpl] at hix; simp only [Plane.v] at hix
 refine rE <| pu3 <| sL a0 2 3 (.slice p.pix.a p.pix.n p.pix.k) (isAgg22 _) <| pu2 <| sL a0 2 0 (I p.w) (isAgg3 _) <| sMul ((idxV y p.h e0.policy).getD 0) p.w <| pu1 <| sAdd (((idxV y p.h e0.policy).getD 0) * p.w) ((idxV (x + (i : Int)) p.w e0.policy).getD 0) <| sIdx hp.pix ((((idxV y p.h e0.policy).getD 0) * p.w) + ((idxV (x + (i : Int)) p.w e0.policy).getD 0)) runUnderlying22 sizeOf3 fun b0 _ _ d1 e1 => sLp a0 (e1.up 3 rfl) 0 (I b0) (isAgg3 _) <| sIdxO hOzs (i : Int) i runUnderlying22 sizeOf3 fun f1 _ _ g1 _ h1 => sStF a0 hOzs h1 0 i 0 f1 b0 g1 (I b0) [I b0] sizeOf3 fun _ i1 j1 k1 => nB <| rE <| sAdd (i : Int) 1 <| pu1 <| nT ?_
 exact ⟨(i + 1, (zs.set i b0), azs, nzs, kzs, i1), od, alA, k1, om, (by rw [List.length_set]; exact hzl), (by rw [hE, fill_set (pxR_len _ _ _ _ _ _) om, pxR, pxR, tab_succ, pixV_get (p := p.v) ‹_› ‹_› d1]), j1⟩
theorem p10_tile (p:Plane) (e0:Edge) (arow:Option Addr) (nrow krow:Nat) (row:List Int) (acol:Option Addr) (ncol kcol:Nat) (col:List Int) (sh:Int) (sh2:Int) (out:Int) (r:Rct) (hp:Plane.Ok [H] p) (hrow:RdT Go.E.encI 1 [H] arow nrow krow row) (hcol:RdT Go.E.encI 1 [H] acol ncol kcol col) (hS:Sat W w (H::F)):
  Calls prog 52 #[.agg (encPlane p).toArray, .agg #[I e0.policy,I e0.fill], .slice arow nrow krow, .slice acol ncol kcol,I sh,I sh2,I out, .agg (encRct r).toArray] w fun e w'=>∃(q:Plane) (c:Int) (G:Chunk),e= .returned (.tuple #[.agg (encPlane q).toArray,I c])/\q.Ok [G]/\(q.v,c)=sepT p.v e0.policy e0.fill row col sh sh2 out r/\Sat W w' (G::H::F):=by
 have hl_p_pix:=hp.pix.le;have hn_p_pix:=hp.pix.len
 have hl_row:=hrow.le;have hn_row:=hrow.len
 have hl_col:=hcol.le;have hn_col:=hcol.len
 refine callsA 209 func52 rfl ?_
 refine sR ?_
 refine sBox hS (.agg (encPlane p).toArray) (encPlane p).toArray ?_
 intro c0 _ z2
 refine sBox z2 (.agg #[I e0.policy,I e0.fill]) #[I e0.policy,I e0.fill] ?_
 intro d0 _ a3
 refine sBox a3 (.agg (encRct r).toArray) (encRct r).toArray ?_
 intro f0 _ b3
 refine sAlloc b3 zeroValue28 ?_
 intro b0 _ j1
 refine pu1<|zQ ?_
 refine lA j1 3 0 4 (isAgg28 _) (sizeOf28 _) ?_
 refine cR call18 (p4_valid p ⟨(RdT.flat (hp.pix.up 4 (by rfl)))⟩ j1.flat) ?_
 intro _ r0
 refine pu2 ?_
 refine sBn 35 (planeOK p.v) (fun h0=>?_) (fun h0=>?_)
 rotate_left
 ·refine pu6<|zC<|pu1 ?_
  refine sTl r0 0 [I 0,I 0,I 0,nS] sizeOf28 ?_
  intro _ k1
  refine pu1<|zR<|retC k1 0 [I 0,I 0,I 0,nS] (I 1) (isAgg28 _) (sizeOf28 _) ?_
  have hC:edgC p.v e0.policy e0.fill (sepCode p.v.max_ row col sh sh2 out) p.v.w p.v.h r=1:=edgC_a (fun h=>h0 h.1)
  have c3:=(k1.drops [0,0,0,0])
  have d3:Sat W _ ([]::H::F):=Sat.nilc c3
  exact ⟨(⟨0,0,0,⟨none,0,0,[]⟩⟩:Plane),1,_,rfl,⟨RdT.nil (enc:=Go.E.encI) (sz:=1) fR [[]]⟩,(by unfold sepT;rw [okT_c hC om];rfl),d3⟩
 refine gY ?_
 refine lA r0 2 0 2 (isAgg55 _) (sizeOf55 _) ?_
 refine pu1<|gY ?_
 refine sL r0 3 2 (I p.max_) (isAgg3 _) ?_
 refine gY ?_
 refine cR call59 (p3_valid e0 p.max_ r0.flat) ?_
 intro _ z0
 refine pu2<|nT ?_
 refine cDn ((e0.policy=3/\0<=e0.fill/\e0.fill<=p.max_)\/(0<=e0.policy/\e0.policy<3/\e0.fill=0)) (fun i0=>?_) (fun i0=>?_)
 rotate_left
 ·refine sR<|pu1 ?_
  refine sTl z0 0 [I 0,I 0,I 0,nS] sizeOf28 ?_
  intro _ l1
  refine pu1<|zR<|retC l1 0 [I 0,I 0,I 0,nS] (I 1) (isAgg28 _) (sizeOf28 _) ?_
  have hC:edgC p.v e0.policy e0.fill (sepCode p.v.max_ row col sh sh2 out) p.v.w p.v.h r=1:=edgC_a (fun h=>i0 h.2)
  have e3:=(l1.drops [0,0,0,0])
  have f3:Sat W _ ([]::H::F):=Sat.nilc e3
  exact ⟨(⟨0,0,0,⟨none,0,0,[]⟩⟩:Plane),1,_,rfl,⟨RdT.nil (enc:=Go.E.encI) (sz:=1) fR [[]]⟩,(by unfold sepT;rw [okT_c hC om];rfl),f3⟩
 refine kT<|seqE<|sR<|pu1 ?_
 refine sL z0 3 2 (I p.max_) (isAgg3 _) ?_
 refine pu5 ?_
 refine cR call65 (p10_check p.max_ arow nrow krow row acol ncol kcol col sh sh2 out (RdT.flat (hrow.up 4 (by rfl))) (RdT.flat (hcol.up 4 (by rfl))) z0.flat) ?_
 intro _ a1
 refine pu1<|zS<|pu2<|nT ?_
 refine cN (sepCode p.max_ row col sh sh2 out) 0 (fun g3=>?_) (fun g3=>?_)
 rotate_left
 ·refine sR<|pu2 ?_
  refine sTl a1 0 [I 0,I 0,I 0,nS] sizeOf28 ?_
  intro _ m1
  refine pu1<|zR<|retC m1 0 [I 0,I 0,I 0,nS] (I (sepCode p.max_ row col sh sh2 out)) (isAgg28 _) (sizeOf28 _) ?_
  have hC:edgC p.v e0.policy e0.fill (sepCode p.v.max_ row col sh sh2 out) p.v.w p.v.h r=(sepCode p.max_ row col sh sh2 out):=edgC_b ⟨h0,i0⟩ (by simp only [Plane.v] at*;omega)
  have h3:=(m1.drops [0,0,0,0])
  have i3:Sat W _ ([]::H::F):=Sat.nilc h3
  exact ⟨(⟨0,0,0,⟨none,0,0,[]⟩⟩:Plane),(sepCode p.max_ row col sh sh2 out),_,rfl,⟨RdT.nil (enc:=Go.E.encI) (sz:=1) fR [[]]⟩,(by unfold sepT;rw [okT_c hC om];rfl),i3⟩
 refine kT<|seqE<|sR ?_
 refine lA a1 1 0 4 (isAgg24 _) (sizeOf24 _) ?_
 refine cR call19 (p2_empty r a1.flat) ?_
 intro _ o0
 refine pu1 ?_
 refine sD 57 (r.x0=0/\r.y0=0/\r.x1=0/\r.y1=0) (fun b1=>?_) (fun b1=>?_)
 ·refine pu9<|zC<|pu1 ?_
  refine sTl o0 0 [I 0,I 0,I 0,nS] sizeOf28 ?_
  intro _ n1
  refine pu1<|zR<|retC n1 0 [I 0,I 0,I 0,nS] (I 8) (isAgg28 _) (sizeOf28 _) ?_
  have hsz:=(plane_sz h0).1;unfold sizeP at hsz;simp only [Plane.v] at hsz
  have hC:edgC p.v e0.policy e0.fill (sepCode p.v.max_ row col sh sh2 out) p.v.w p.v.h r=8:=edgC_c ⟨h0,i0⟩ (by simp only [Plane.v] at*;omega) (fun h=>by have h2:=(ins_in (by simp only [Plane.v];omega) (by simp only [Plane.v];omega)).2 h;exact h2.1 b1)
  have j3:=(n1.drops [0,0,0,0])
  have k3:Sat W _ ([]::H::F):=Sat.nilc j3
  exact ⟨(⟨0,0,0,⟨none,0,0,[]⟩⟩:Plane),8,_,rfl,⟨RdT.nil (enc:=Go.E.encI) (sz:=1) fR [[]]⟩,(by unfold sepT;rw [okT_c hC om];rfl),k3⟩
 refine gY ?_
 refine lA o0 1 0 4 (isAgg24 _) (sizeOf24 _) ?_
 refine pu1<|gY ?_
 refine sL o0 3 0 (I p.w) (isAgg3 _) ?_
 refine pu1<|gY ?_
 refine sL o0 3 1 (I p.h) (isAgg3 _) ?_
 refine pu1<|gY ?_
 refine cR call20 (p2_inside r (⟨0,0,p.w,p.h⟩:Rct) o0.flat) ?_
 intro _ j0
 refine pu2<|nT ?_
 refine cDn (insP r (⟨0,0,p.w,p.h⟩:Rct)) (fun c1=>?_) (fun c1=>?_)
 rotate_left
 ·refine sR<|pu1 ?_
  refine sTl j0 0 [I 0,I 0,I 0,nS] sizeOf28 ?_
  intro _ o1
  refine pu1<|zR<|retC o1 0 [I 0,I 0,I 0,nS] (I 8) (isAgg28 _) (sizeOf28 _) ?_
  have hsz:=(plane_sz h0).1;unfold sizeP at hsz;simp only [Plane.v] at hsz
  have hC:edgC p.v e0.policy e0.fill (sepCode p.v.max_ row col sh sh2 out) p.v.w p.v.h r=8:=edgC_c ⟨h0,i0⟩ (by simp only [Plane.v] at*;omega) (fun h=>by have h2:=(ins_in (by simp only [Plane.v];omega) (by simp only [Plane.v];omega)).2 h;exact c1 h2.2)
  have l3:=(o1.drops [0,0,0,0])
  have m3:Sat W _ ([]::H::F):=Sat.nilc l3
  exact ⟨(⟨0,0,0,⟨none,0,0,[]⟩⟩:Plane),8,_,rfl,⟨RdT.nil (enc:=Go.E.encI) (sz:=1) fR [[]]⟩,(by unfold sepT;rw [okT_c hC om];rfl),m3⟩
 refine kT<|seqE ?_
 have hpo:planeOK p.v=true:=h0;have hev:edgeV e0.policy e0.fill p.max_:=i0;have hcc:(sepCode p.v.max_ row col sh sh2 out)=0:=by simp only [Plane.v];omega
 have hsz:=(plane_sz hpo).1;unfold sizeP at hsz;simp only [Plane.v] at hsz;have hri:rIn r p.w p.h:=(ins_in om om).1 ⟨b1,c1⟩
 have hri0:=hri;unfold rIn at hri0;obtain ⟨hcl,hcs,hco,hbr,hbc⟩:=sep_ok hcc
 obtain ⟨Wn,hW⟩:∃k:Nat,r.x1-r.x0=(k:Int):=⟨_,(Int.toNat_of_nonneg om).symm⟩;obtain ⟨Hn,hH⟩:∃k:Nat,r.y1-r.y0=(k:Int):=⟨_,(Int.toNat_of_nonneg om).symm⟩
 have hWb:1<=Wn/\Wn<=128/\1<=Hn/\Hn<=128:=om;have hWH:Hn*Wn<=4096:=by have h1:=rIn_area hri (by first|omega|assumption);rw [hW,hH] at h1;have h2:((Hn*Wn:Nat):Int)=(Wn:Int)*(Hn:Int):=(by push_cast;rw [Int.mul_comm]);omega
 have hWi:(r.x1-r.x0)*(r.y1-r.y0)=((Hn*Wn:Nat):Int):=by rw [hW,hH];push_cast;rw [Int.mul_comm]
 have ht1:(nrow:Int).tdiv 2=(nrow:Int)/2:=Int.tdiv_eq_ediv_of_nonneg om;have ht2:(ncol:Int).tdiv 2=(ncol:Int)/2:=Int.tdiv_eq_ediv_of_nonneg om;have har:=(wCode_len (bnd_t hbr).1).2.2;have hac:=(wCode_len (bnd_t hbc).1).2.2
 have hKN:r.y1-r.y0+(ncol:Int)-1=((Hn+ncol-1:Nat):Int):=by omega
 refine rE<|pu1 ?_
 refine sL j0 1 2 (I r.x1) (isAgg3 _) ?_
 refine pu1 ?_
 refine sL j0 1 0 (I r.x0) (isAgg3 _) ?_
 refine sSub r.x1 r.x0 ?_
 refine pu1 ?_
 refine sL j0 1 3 (I r.y1) (isAgg3 _) ?_
 refine pu1 ?_
 refine sL j0 1 1 (I r.y0) (isAgg3 _) ?_
 refine sSub r.y1 r.y0 ?_
 refine pu2 ?_
 refine sAlloc j0 zeroValue28 ?_
 intro a0 _ n3
 refine sTl n3 0 [I (r.x1-r.x0),I (r.y1-r.y0),I out,nS] sizeOf28 ?_
 intro _ q1
 refine zS<|pu1 ?_
 refine sL q1 0 1 (I (r.y1-r.y0)) (isAgg3 _) ?_
 refine pu2 ?_
 refine sAdd (r.y1-r.y0) (ncol:Int) ?_
 refine sSub ((r.y1-r.y0)+(ncol:Int)) 1 ?_
 refine sMake (kl:= .i64) (kc:= .i64) (enc:=encIL) (sz:=1) (nb:=24) q1 ⟨⟨none,0,0,[]⟩⟩ ((((r.y1-r.y0)+(ncol:Int))-1)).toNat (((r.y1-r.y0)+(ncol:Int))-1) (om:(((r.y1-r.y0)+(ncol:Int))-1)=((((((r.y1-r.y0)+(ncol:Int))-1)).toNat:Nat):Int)) underlying68 (i:=Try.t22) kr fR ?_
 intro o3 p3 _ q3 r3
 refine pu1<|nT<|seqE<|seqE ?_
 have s3:=Sat.nilc r3
 refine rE<|pu3<|nT<|blockE ?_
 have u3:=(s3.pick 1 rfl)
 have v3:=(u3.pick 1 rfl)
 refine loopA (γ:=Nat×(List IL)×(Option Addr)×Nat×Nat×Chunk×Chunk) (fun ⟨i,ms,ams,nms,kms,cms,Gms⟩=>[(2, .slice arow nrow krow),(3, .slice acol ncol kcol),(4,I sh),(5,I sh2),(6,I out),(8,Pt c0 0),(9,Pt d0 0),(15,Pt f0 0),(16,Pt b0 0),(19,Pt a0 0),(88,I ((((((r.y1-r.y0)+(ncol:Int))-1)).toNat:Nat):Int)),(89,I (i:Int)),(20, .slice ams nms kms)]) (fun ⟨i,ms,ams,nms,kms,cms,Gms⟩ w=>Sat W w (Gms::cms::[(a0, .cells #[I (r.x1-r.x0),I (r.y1-r.y0),I out,nS] 28 (0,0))]::[(b0, .cells #[I 0,I 0,I 0,nS] 28 (0,0))]::[(f0, .cells (encRct r).toArray 24 (0,0))]::[(d0, .cells #[I e0.policy,I e0.fill] 55 (0,0))]::[(c0, .cells (encPlane p).toArray 28 (0,0))]::H::F)/\i<=Hn+ncol-1/\(ms.length=Hn+ncol-1)/\(ms.map (fun z=>z.l.l)=tabN (fun t=>midR p.v e0.policy e0.fill row sh r.x0 (r.y0-(col.length:Int)/2+(t:Int)) Wn) i++List.replicate (Hn+ncol-1-i) [])/\OwnT encIL 22 1 ams nms kms ms cms/\(∀z∈ms,IL.Ok [Gms] z)) (fun ⟨i,ms,ams,nms,kms,cms,Gms⟩=>(Hn+ncol-1)-i) (0,(List.replicate ((((r.y1-r.y0)+(ncol:Int))-1)).toNat ⟨⟨none,0,0,[]⟩⟩),(At o3 0),((((r.y1-r.y0)+(ncol:Int))-1)).toNat,((((r.y1-r.y0)+(ncol:Int))-1)).toNat,p3,[]) ⟨v3,om,(by rw [List.length_replicate];omega),(by rw [List.map_replicate,show (r.y1-r.y0+(ncol:Int)-1).toNat=Hn+ncol-1 by omega];rfl),q3,(fun z hz=>by rw [List.eq_of_mem_replicate hz];exact ⟨RdT.nil (enc:=Go.E.encI) (sz:=1) fR _⟩)⟩ ?_
 rintro ⟨i,ms,ams,nms,kms,cms,Gms⟩ ρ _ ⟨g0,hi,hml,hms,hOms,hDms⟩
 have hn_ms:=hOms.len;have hl_ms:=hOms.le
 refine sR<|pu1<|nT<|seqE ?_
 refine cD ((i:Int)<((((((r.y1-r.y0)+(ncol:Int))-1)).toNat:Nat):Int)) (fun w3=>?_) (fun w3=>?_)
 rotate_left
 ·refine exitE<|xB<|tN<|seqE ?_
  have hmr:ms.map (fun z=>z.l.l)=tabN (fun t=>midR p.v e0.policy e0.fill row sh r.x0 (r.y0-(col.length:Int)/2+(t:Int)) Wn) (Hn+ncol-1):=by rw [hms,show i=Hn+ncol-1 by omega,Nat.sub_self,List.replicate_zero,List.append_nil]
  refine rE<|pu1 ?_
  refine sL g0 2 0 (I (r.x1-r.x0)) (isAgg3 _) ?_
  refine pu1 ?_
  refine sL g0 2 1 (I (r.y1-r.y0)) (isAgg3 _) ?_
  refine sMul (r.x1-r.x0) (r.y1-r.y0) ?_
  refine sMake0 (kl:= .i64) (kc:= .i64) (enc:=Go.E.encI) (sz:=1) (nb:=8) g0 (((r.x1-r.x0)*(r.y1-r.y0))).toNat ((r.x1-r.x0)*(r.y1-r.y0)) (om:((r.x1-r.x0)*(r.y1-r.y0))=(((((r.x1-r.x0)*(r.y1-r.y0))).toNat:Nat):Int)) underlying22 (i:=Try.t3) kr fR ?_
  intro r1 x3 _ y3 z3
  refine pu1 ?_
  refine tW z3 3 3 (.slice (At r1 0) 0 ((((r.x1-r.x0)*(r.y1-r.y0))).toNat)) sizeOf22 ?_
  intro _ t1
  refine nT<|seqE<|seqE ?_
  obtain ⟨f,hf⟩:∃f:Int->Int->Int,f=fun i j=>sepX p.v e0.policy e0.fill row col sh sh2 out (r.x0+i) (r.y0+j):=⟨_,rfl⟩
  refine rE<|pu1 ?_
  refine sL t1 3 1 (I (r.y1-r.y0)) (isAgg3 _) ?_
  refine pu1<|nT<|blockE ?_
  refine loopA (γ:=Nat×(List Int)×(Option Addr)×Nat×Nat×Chunk) (fun ⟨i,zs,azs,nzs,kzs,czs⟩=>[(3, .slice acol ncol kcol),(5,I sh2),(6,I out),(16,Pt b0 0),(19,Pt a0 0),(20, .slice ams nms kms),(166,I (r.y1-r.y0)),(167,I (i:Int))]) (fun ⟨i,zs,azs,nzs,kzs,czs⟩ w=>Sat W w (czs::Gms::cms::[(a0, .cells #[I (r.x1-r.x0),I (r.y1-r.y0),I out, .slice azs nzs kzs] 28 (0,0))]::[(b0, .cells #[I 0,I 0,I 0,nS] 28 (0,0))]::[(f0, .cells (encRct r).toArray 24 (0,0))]::[(d0, .cells #[I e0.policy,I e0.fill] 55 (0,0))]::[(c0, .cells (encPlane p).toArray 28 (0,0))]::H::F)/\i<=Hn/\(zs=gridN Wn f (i*Wn))/\OwnT Go.E.encI 3 1 azs nzs kzs zs czs) (fun ⟨i,zs,azs,nzs,kzs,czs⟩=>Hn-i) (0,[],(At r1 0),0,(((r.x1-r.x0)*(r.y1-r.y0))).toNat,x3) ⟨t1,om,(by rw [Nat.zero_mul];rfl),y3⟩ ?_
  rintro ⟨i,zs,azs,nzs,kzs,czs⟩ ρ _ ⟨s0,hi,hE,hOzs⟩
  have hn_zs:=hOzs.len;have hl_zs:=hOzs.le
  refine sR<|pu1<|nT<|seqE ?_
  refine cD ((i:Int)<(r.y1-r.y0)) (fun a4=>?_) (fun a4=>?_)
  rotate_left
  ·refine exitE<|xB<|tN<|sR ?_
   refine lA s0 3 0 4 (isAgg28 _) (sizeOf28 _) ?_
   refine sTl s0 4 [I (r.x1-r.x0),I (r.y1-r.y0),I out, .slice azs nzs kzs] sizeOf28 ?_
   intro _ u1
   refine pu1<|zE<|retC u1 4 [I (r.x1-r.x0),I (r.y1-r.y0),I out, .slice azs nzs kzs] (I 0) (isAgg28 _) (sizeOf28 _) ?_
   have hz9:zs=gridN Wn f (Hn*Wn):=by rw [hE,show i=Hn by omega]
   have hC:edgC p.v e0.policy e0.fill (sepCode p.v.max_ row col sh sh2 out) p.v.w p.v.h r=0:=edgC_ok hpo hev hcc hri
   exact ⟨(⟨(r.x1-r.x0),(r.y1-r.y0),out,⟨azs,nzs,kzs,zs⟩⟩:Plane),0,_,rfl,⟨(hOzs.rdAt (cs:=[czs]) 0 rfl)⟩,(by unfold sepT;rw [okT_0 hC,mk_pl hri hW hH (hf▸hz9)];rfl),(u1.drops [1,1,1,1,1,1,1])⟩
  refine kT<|seqE<|blockE<|sR<|pu2<|zS<|pu1 ?_
  refine sL s0 3 0 (I (r.x1-r.x0)) (isAgg3 _) ?_
  refine pu1<|nT<|blockE ?_
  refine loopA (γ:=Nat×(List Int)×(Option Addr)×Nat×Nat×Chunk) (fun ⟨j,zt,azt,nzt,kzt,czt⟩=>[(3, .slice acol ncol kcol),(5,I sh2),(6,I out),(16,Pt b0 0),(19,Pt a0 0),(20, .slice ams nms kms),(166,I (r.y1-r.y0)),(167,I (i:Int)),(27,I (i:Int)),(171,I (r.x1-r.x0)),(172,I (j:Int))]) (fun ⟨j,zt,azt,nzt,kzt,czt⟩ w=>Sat W w (czt::Gms::cms::[(a0, .cells #[I (r.x1-r.x0),I (r.y1-r.y0),I out, .slice azt nzt kzt] 28 (0,0))]::[(b0, .cells #[I 0,I 0,I 0,nS] 28 (0,0))]::[(f0, .cells (encRct r).toArray 24 (0,0))]::[(d0, .cells #[I e0.policy,I e0.fill] 55 (0,0))]::[(c0, .cells (encPlane p).toArray 28 (0,0))]::H::F)/\j<=Wn/\(zt=gridN Wn f (i*Wn+j))/\OwnT Go.E.encI 3 1 azt nzt kzt zt czt) (fun ⟨j,zt,azt,nzt,kzt,czt⟩=>Wn-j) (0,zs,azs,nzs,kzs,czs) ⟨s0,om,(by rw [Nat.add_zero];exact hE),hOzs⟩ ?_
  rintro ⟨j,zt,azt,nzt,kzt,czt⟩ ρ _ ⟨v1,hj,hE2,hOzt⟩
  have hn_zt:=hOzt.len;have hl_zt:=hOzt.le
  have hzl:zt.length=i*Wn+j:=by rw [hE2,grid_len]
  have hij:i*Wn+j<=Hn*Wn:=by have h1:=Nat.mul_le_mul_right Wn (show i+1<=Hn by omega);rw [Nat.add_mul,Nat.one_mul] at h1;omega
  refine sR<|pu1<|nT<|seqE ?_
  refine cD ((j:Int)<(r.x1-r.x0)) (fun c4=>?_) (fun c4=>?_)
  rotate_left
  ·refine exitE<|xB<|bN<|tN<|rE ?_
   refine sAdd (i:Int) 1 ?_
   refine pu1<|nT ?_
   exact ⟨(i+1,zt,azt,nzt,kzt,czt),od,alA,v1,om,(by rw [Nat.add_mul,Nat.one_mul,hE2,show j=Wn by omega]),hOzt⟩
  refine kT<|seqE<|blockE<|sR<|pu2<|zS<|pu1<|zQ<|pu3<|nT<|blockE ?_
  refine loopA (γ:=Nat×Int) (fun ⟨a,s2⟩=>[(3, .slice acol ncol kcol),(5,I sh2),(6,I out),(16,Pt b0 0),(19,Pt a0 0),(20, .slice ams nms kms),(166,I (r.y1-r.y0)),(167,I (i:Int)),(27,I (i:Int)),(171,I (r.x1-r.x0)),(172,I (j:Int)),(28,I (j:Int)),(175, .slice acol ncol kcol),(176,I (ncol:Int)),(177,I (a:Int)),(29,I s2)]) (fun ⟨a,s2⟩ w=>Sat W w (czt::Gms::cms::[(a0, .cells #[I (r.x1-r.x0),I (r.y1-r.y0),I out, .slice azt nzt kzt] 28 (0,0))]::[(b0, .cells #[I 0,I 0,I 0,nS] 28 (0,0))]::[(f0, .cells (encRct r).toArray 24 (0,0))]::[(d0, .cells #[I e0.policy,I e0.fill] 55 (0,0))]::[(c0, .cells (encPlane p).toArray 28 (0,0))]::H::F)/\a<=ncol/\(s2=sepS p.v e0.policy e0.fill row col sh (r.x0+(j:Int)) (r.y0+(i:Int)) a)) (fun ⟨a,s2⟩=>ncol-a) (0,0) ⟨v1,om,by rfl⟩ ?_
  rintro ⟨a,s2⟩ ρ _ ⟨k0,ha,hs2⟩
  have hsb:=sep_part (row:=row) (col:=col) (x:=r.x0+(j:Int)) (y:=r.y0+(i:Int)) hpo hev hcc (n:=a) om
  refine sR<|pu1<|nT<|seqE ?_
  refine cD ((a:Int)<(ncol:Int)) (fun d4=>?_) (fun d4=>?_)
  ·refine kT<|seqE<|blockE<|sR<|pu1 ?_
   refine sIdx hcol (a:Int) runUnderlying22 sizeOf3 ?_
   intro t0 _ _ d1 e4
   rw [Int.toNat_natCast] at d1
   have hwx:=areW_at hac d1
   refine sLp k0 (e4.up 8 rfl) 0 (I t0) (isAgg3 _) ?_
   refine pu2<|nT<|rE<|pu5 ?_
   refine sAdd (i:Int) (a:Int) ?_
   refine sIdxO hOms ((i:Int)+(a:Int)) (((i:Int)+(a:Int))).toNat runUnderlying68 sizeOf22 ?_
   intro l0 _ _ e1 f4 _
   have hxl:=rows_at hmr e1 om;have hxn:l0.l.n=Wn:=by have h:=congrArg List.length hxl;rw [midR,tab_len,(hDms l0 (List.mem_of_getElem? e1)).l.len] at h;exact h
   refine sLp k0 (f4.up 2 rfl) 0 (.slice l0.l.a l0.l.n l0.l.k) (isAgg22 _) ?_
   refine pu1 ?_
   refine sIdx (hDms l0 (List.mem_of_getElem? e1)).l (j:Int) runUnderlying22 sizeOf3 ?_
   intro m0 _ _ w1 g4
   rw [Int.toNat_natCast] at w1
   have hmv:m0=midV p.v e0.policy e0.fill row sh (r.x0+(j:Int)) (r.y0+(i:Int)+(a:Int)-(col.length:Int)/2):=by have h:=w1;rw [hxl,midR,tab_at om] at h;rw [<-Option.some.inj h];exact mid_eq om
   have hmb:=mid_bd (row:=row) (col:=col) (x:=r.x0+(j:Int)) (y:=r.y0+(i:Int)+(a:Int)-(col.length:Int)/2) hpo hev hcc;rw [<-hmv] at hmb;have hpm:=wmul_bd (v:=m0) (B:=68719476736) hwx hmb (by decide)
   refine sLp k0 (g4.up 1 rfl) 0 (I m0) (isAgg3 _) ?_
   refine sMul t0 m0 ?_
   refine sAdd s2 (t0*m0) ?_
   refine pu1<|nB<|rE ?_
   refine sAdd (a:Int) 1 ?_
   refine pu1<|nT ?_
   exact ⟨(a+1,(s2+(t0*m0))),od,alA,k0,om,(by rw [sep_succ d1,<-hs2,<-hmv])⟩
  refine exitE<|xB<|tN ?_
  refine drawE [4,6,7,8,10] [(1,⟨a0,3,none⟩, .slice azt nzt kzt)] [(true,[0,2,3,5]),(true,[1]),(false,[4]),(false,[6]),(false,[7]),(false,[8]),(true,[9]),(false,[10])] rfl kr ⟨cI k0 3,trivial⟩ ?_
  have h4:=k0.drew
  refine wU [0,2,3,5] ?_
  refine wLd (.slice azt nzt kzt) 0 isAgg22 ?_
  refine wO rfl ?_
  refine cR call64 (p7_shift s2 sh2 h4.flat) ?_
  intro _ z1
  refine nilO ⟨⟨cI z1 3,trivial⟩,?_⟩
  refine wO rfl ?_
  refine cR call63 (p7_clamp (shiftV s2 sh2) out z1.flat) ?_
  intro _ a2
  refine nilO ⟨⟨cI a2 3,trivial⟩,?_⟩
  refine wO rfl ?_
  refine sBS a2 #[I (clampV (shiftV s2 sh2) out)] runUnderlying22 sizeOf3 zeroValue3 ?_
  intro _ _ b2
  refine nilO ⟨⟨cI b2 4,trivial⟩,?_⟩
  refine wO rfl ?_
  refine sApp (nb:=8) b2 hOzt 1 (RdT.blk (enc:=Go.E.encI) (sz:=1) (xs:=[(clampV (shiftV s2 sh2) out)]) fR 1 0 rfl rfl rfl om) underlying22 (i:=Try.t3) kr fR ?_
  intro c2 d2 i4 _ j4 k4
  refine nilO ⟨dA,?_⟩
  refine wU [9] ?_
  refine wO rfl ?_
  refine tW k4 4 3 (.slice c2 (nzt+1) d2) sizeOf22 ?_
  intro _ l4
  refine nilO ⟨dA,?_⟩
  refine wN ?_
  refine bN<|tN<|rE ?_
  refine sAdd (j:Int) 1 ?_
  refine pu1<|nT ?_
  exact ⟨(j+1,(zt++[(clampV (shiftV s2 sh2) out)]),c2,(nzt+1),d2,i4),od,alA,(l4.dropAt 0 rfl),om,(by rw [<-Nat.add_assoc,grid_succ om,<-hE2,hf];dsimp only;unfold sepX;rw [hn_col,<-show a=ncol by omega,<-hs2]),j4⟩
 refine kT<|seqE<|blockE<|sR<|pu2<|zS ?_
 refine lA g0 6 0 4 (isAgg28 _) (sizeOf28 _) ?_
 refine lA g0 5 0 2 (isAgg55 _) (sizeOf55 _) ?_
 refine pu1 ?_
 refine sL g0 4 0 (I r.x0) (isAgg3 _) ?_
 refine pu2 ?_
 refine sQuo (nrow:Int) 2 ?_
 refine sSub r.x0 ((nrow:Int).tdiv 2) ?_
 refine pu1 ?_
 refine sL g0 4 1 (I r.y0) (isAgg3 _) ?_
 refine pu2 ?_
 refine sQuo (ncol:Int) 2 ?_
 refine sSub r.y0 ((ncol:Int).tdiv 2) ?_
 refine pu1 ?_
 refine sAdd (r.y0-((ncol:Int).tdiv 2)) (i:Int) ?_
 refine pu1 ?_
 refine sL g0 2 0 (I (r.x1-r.x0)) (isAgg3 _) ?_
 refine pu2 ?_
 refine sAdd (r.x1-r.x0) (nrow:Int) ?_
 refine sSub ((r.x1-r.x0)+(nrow:Int)) 1 ?_
 refine cX call66 (p10_pixels p e0 (r.x0-((nrow:Int).tdiv 2)) ((r.y0-((ncol:Int).tdiv 2))+(i:Int)) (((r.x1-r.x0)+(nrow:Int))-1) ⟨(RdT.flat (hp.pix.up 7 (by rfl)))⟩ hpo hev om om g0.flat) ?_
 rintro _ _ ⟨e2,f2,g2,i2,j2,rfl,f1,n4,o4⟩
 have k2:=o4.unflat1
 have hn_az_61:=f1.len;have hl_az_61:=f1.le
 refine pu1<|zS<|pu3 ?_
 refine sL k2 3 0 (I (r.x1-r.x0)) (isAgg3 _) ?_
 refine sMake (kl:= .i64) (kc:= .i64) (enc:=Go.E.encI) (sz:=1) (nb:=8) k2 0 ((r.x1-r.x0)).toNat (r.x1-r.x0) (om:(r.x1-r.x0)=((((r.x1-r.x0)).toNat:Nat):Int)) underlying22 (i:=Try.t3) kr fR ?_
 intro u0 l2 _ p4 q4
 refine sIdxO hOms (i:Int) i runUnderlying68 sizeOf22 ?_
 intro r4 _ _ m2 _ s4
 refine sStF q4 hOms s4 3 i 0 r4 (⟨⟨(At u0 0),((r.x1-r.x0)).toNat,((r.x1-r.x0)).toNat,(List.replicate ((r.x1-r.x0)).toNat 0)⟩⟩:IL) m2 (.slice (At u0 0) (((r.x1-r.x0)).toNat) (((r.x1-r.x0)).toNat)) [.slice (At u0 0) (((r.x1-r.x0)).toNat) (((r.x1-r.x0)).toNat)] sizeOf22 ?_
 intro _ p0 t4 n2
 refine nT<|seqE ?_
 obtain ⟨m,hm⟩:∃m:IL,m=(⟨⟨(At u0 0),((r.x1-r.x0)).toNat,((r.x1-r.x0)).toNat,(List.replicate ((r.x1-r.x0)).toNat 0)⟩⟩:IL):=⟨_,rfl⟩
 have v0:=t4;rw [<-hm] at v0
 have u4:OwnT Go.E.encI 3 1 m.l.a m.l.n m.l.k (List.replicate ((r.x1-r.x0)).toNat 0) l2:=by rw [hm];exact p4
 have hmn:m.l.n=Wn:=by rw [hm];first|rfl|(dsimp only;omega)
 have o2:=set_at (y:=m) m2
 obtain ⟨yk,hyk⟩:∃k:Int,k=r.y0-(ncol:Int)/2+(i:Int):=⟨_,rfl⟩
 have hsrc:i2=pxR p.v e0.policy e0.fill (r.x0-(nrow:Int)/2) yk (Wn+nrow-1):=by rw [n4,ht1,ht2,<-hyk];congr 1;omega
 have hsn:i2.length=Wn+nrow-1:=by rw [hsrc];exact tab_len _ _
 refine rE<|pu2 ?_
 refine sIdxO v0 (i:Int) i runUnderlying68 sizeOf22 ?_
 intro v4 _ _ w4 x4 _
 obtain rfl:m=v4:=Option.some.inj (o2.symm.trans w4)
 refine sLp n2 (x4.up 3 rfl) 0 (.slice m.l.a m.l.n m.l.k) (isAgg22 _) ?_
 refine pu2<|nT<|blockE ?_
 refine loopA (γ:=Nat×(List Int)×Chunk) (fun ⟨u,zt,czt⟩=>[(2, .slice arow nrow krow),(3, .slice acol ncol kcol),(4,I sh),(5,I sh2),(6,I out),(8,Pt c0 0),(9,Pt d0 0),(15,Pt f0 0),(16,Pt b0 0),(19,Pt a0 0),(88,I ((((((r.y1-r.y0)+(ncol:Int))-1)).toNat:Nat):Int)),(89,I (i:Int)),(20, .slice ams nms kms),(21,I (i:Int)),(22, .slice e2 f2 g2),(125,I (m.l.n:Int)),(126,I (u:Int))]) (fun ⟨u,zt,czt⟩ w=>Sat W w (czt::j2::Gms::p0::[(a0, .cells #[I (r.x1-r.x0),I (r.y1-r.y0),I out,nS] 28 (0,0))]::[(b0, .cells #[I 0,I 0,I 0,nS] 28 (0,0))]::[(f0, .cells (encRct r).toArray 24 (0,0))]::[(d0, .cells #[I e0.policy,I e0.fill] 55 (0,0))]::[(c0, .cells (encPlane p).toArray 28 (0,0))]::H::F)/\u<=Wn/\(zt=midR p.v e0.policy e0.fill row sh r.x0 yk u++List.replicate (Wn-u) 0)/\OwnT Go.E.encI 3 1 m.l.a m.l.n m.l.k zt czt) (fun ⟨u,zt,czt⟩=>Wn-u) (0,(List.replicate ((r.x1-r.x0)).toNat 0),l2) ⟨n2,om,(by rw [show (r.x1-r.x0).toNat=Wn by omega];rfl),u4⟩ ?_
 rintro ⟨u,zt,czt⟩ ρ _ ⟨q2,hu,hzt,hOzt⟩
 have hn_zt:=hOzt.len;have hl_zt:=hOzt.le
 refine sR<|pu1<|nT<|seqE ?_
 refine cD ((u:Int)<(m.l.n:Int)) (fun y4=>?_) (fun y4=>?_)
 rotate_left
 ·refine exitE<|xB<|bN<|tN<|rE ?_
  refine sAdd (i:Int) 1 ?_
  refine pu1<|nT ?_
  have z4:=own_setSame (y:=(⟨⟨m.l.a,m.l.n,m.l.k,zt⟩⟩:IL)) v0 rfl
  have a5:=(q2.dropAt 1 rfl)
  have b5:=(Sat.perm (cs':=(czt++Gms)::(p0::[(a0, .cells #[I (r.x1-r.x0),I (r.y1-r.y0),I out,nS] 28 (0,0))]::[(b0, .cells #[I 0,I 0,I 0,nS] 28 (0,0))]::[(f0, .cells (encRct r).toArray 24 (0,0))]::[(d0, .cells #[I e0.policy,I e0.fill] 55 (0,0))]::[(c0, .cells (encPlane p).toArray 28 (0,0))]::H::F)) (show Sat W _ (czt::Gms::p0::[(a0, .cells #[I (r.x1-r.x0),I (r.y1-r.y0),I out,nS] 28 (0,0))]::[(b0, .cells #[I 0,I 0,I 0,nS] 28 (0,0))]::[(f0, .cells (encRct r).toArray 24 (0,0))]::[(d0, .cells #[I e0.policy,I e0.fill] 55 (0,0))]::[(c0, .cells (encPlane p).toArray 28 (0,0))]::H::F) from a5) (by simp))
  exact ⟨(i+1,(ms.set i (⟨⟨m.l.a,m.l.n,m.l.k,zt⟩⟩:IL)),ams,nms,kms,p0,(czt++Gms)),od,alA,b5,om,(by rw [List.length_set];exact hml),(by rw [List.map_set,hms,fill_setG (tab_len _ _) om,tab_succ,hzt,show u=Wn by omega,Nat.sub_self,List.replicate_zero,List.append_nil,hn_col,hyk]),z4,(mem_set (fun z hz=>(hDms z hz).of_mem mS) ⟨hOzt.rd mS⟩)⟩
 refine kT<|seqE<|blockE<|sR<|pu2<|zS<|pu1<|zQ<|pu3<|nT<|blockE ?_
 refine loopA (γ:=Nat×Int) (fun ⟨a,s1⟩=>[(2, .slice arow nrow krow),(3, .slice acol ncol kcol),(4,I sh),(5,I sh2),(6,I out),(8,Pt c0 0),(9,Pt d0 0),(15,Pt f0 0),(16,Pt b0 0),(19,Pt a0 0),(88,I ((((((r.y1-r.y0)+(ncol:Int))-1)).toNat:Nat):Int)),(89,I (i:Int)),(20, .slice ams nms kms),(21,I (i:Int)),(22, .slice e2 f2 g2),(125,I (m.l.n:Int)),(126,I (u:Int)),(23,I (u:Int)),(129, .slice arow nrow krow),(130,I (nrow:Int)),(131,I (a:Int)),(24,I s1)]) (fun ⟨a,s1⟩ w=>Sat W w (czt::j2::Gms::p0::[(a0, .cells #[I (r.x1-r.x0),I (r.y1-r.y0),I out,nS] 28 (0,0))]::[(b0, .cells #[I 0,I 0,I 0,nS] 28 (0,0))]::[(f0, .cells (encRct r).toArray 24 (0,0))]::[(d0, .cells #[I e0.policy,I e0.fill] 55 (0,0))]::[(c0, .cells (encPlane p).toArray 28 (0,0))]::H::F)/\a<=nrow/\(s1=midS p.v e0.policy e0.fill row (r.x0+(u:Int)) yk a)) (fun ⟨a,s1⟩=>nrow-a) (0,0) ⟨q2,om,by rfl⟩ ?_
 rintro ⟨a,s1⟩ ρ _ ⟨q0,ha,hs1⟩
 have hsb:=mid_part (row:=row) (x:=r.x0+(u:Int)) (y:=yk) hpo hev hcc (n:=a) om
 refine sR<|pu1<|nT<|seqE ?_
 refine cD ((a:Int)<(nrow:Int)) (fun c5=>?_) (fun c5=>?_)
 ·refine kT<|seqE<|blockE<|sR<|pu1 ?_
  refine sIdx hrow (a:Int) runUnderlying22 sizeOf3 ?_
  intro w0 _ _ g1 d5
  rw [Int.toNat_natCast] at g1
  have hwx:=areW_at har g1
  refine sLp q0 (d5.up 9 rfl) 0 (I w0) (isAgg3 _) ?_
  refine pu2<|nT<|rE<|pu5 ?_
  refine sAdd (u:Int) (a:Int) ?_
  refine sIdx f1 ((u:Int)+(a:Int)) runUnderlying22 sizeOf3 ?_
  intro n0 _ _ e5 f5
  have hpv:n0=pixV p.v e0.policy e0.fill (r.x0+(u:Int)+(a:Int)-(row.length:Int)/2) yk:=by have h:=e5;rw [hsrc,pxR,tab_at om] at h;rw [<-Option.some.inj h];exact pix_eq om rfl
  have hpx:=pix_bd hpo hev (x:=r.x0+(u:Int)+(a:Int)-(row.length:Int)/2) (y:=yk);rw [<-hpv] at hpx;have hpm:=wmul_bd (v:=n0) (B:=4294967296) hwx (by simp only [Plane.v] at*;omega) (by decide)
  refine sLp q0 (f5.up 1 rfl) 0 (I n0) (isAgg3 _) ?_
  refine sMul w0 n0 ?_
  refine sAdd s1 (w0*n0) ?_
  refine pu1<|nB<|rE ?_
  refine sAdd (a:Int) 1 ?_
  refine pu1<|nT ?_
  exact ⟨(a+1,(s1+(w0*n0))),od,alA,q0,om,(by rw [mid_succ g1,<-hs1,<-hpv])⟩
 refine exitE<|xB<|tN ?_
 obtain ⟨g5,r2,t2,u2,i1,v2,q7⟩:=OwnT.elem v0 (i:Int)
 rw [Int.toNat_natCast] at u2 i1 v2
 obtain rfl:m=g5:=Option.some.inj (o2.symm.trans u2)
 obtain ⟨h5,i5,j5,w2,k5,x2,l5⟩:=OwnT.elem hOzt (u:Int)
 rw [Int.toNat_natCast] at w2 k5 x2
 refine drawE [7,9] [(3,⟨r2,t2+i*1,none⟩, .slice m.l.a m.l.n m.l.k)] [(true,[0,1]),(true,[2]),(true,[4,5,6]),(true,[3]),(false,[7]),(true,[8]),(false,[9])] rfl kr ⟨.inr ((i1.up 3 rfl).cell q0 (k:=0) rfl),trivial⟩ ?_
 have m5:=q0.drew
 refine wU [0,1] ?_
 refine wY (.pointer (some ⟨r2,t2+i*1,none⟩)) rfl (fun w _=>Y_idx (a:=ams) (i:=(i:Int)) (len:=nms) (cap:=kms) rfl runUnderlying68 sizeOf22 kr kr v2) ?_
 refine wU [4,5,6] ?_
 refine wLd (.slice m.l.a m.l.n m.l.k) 0 isAgg22 ?_
 refine wO rfl ?_
 refine cR call64 (p7_shift s1 sh m5.flat) ?_
 intro _ y2
 refine nilO ⟨⟨.inr ((i1.up 3 rfl).cell y2 (k:=0) rfl),trivial⟩,?_⟩
 refine wY (.pointer (some ⟨i5,j5+u*1,none⟩)) rfl (fun w _=>Y_idx (a:=m.l.a) (i:=(u:Int)) (len:=m.l.n) (cap:=m.l.k) rfl runUnderlying22 sizeOf3 kr kr x2) ?_
 refine wO rfl ?_
 refine sStF y2 hOzt l5 0 u 0 h5 (shiftV s1 sh) w2 (I (shiftV s1 sh)) [I (shiftV s1 sh)] sizeOf3 ?_
 intro _ n5 o5 p5
 refine nilO ⟨dA,?_⟩
 refine wN ?_
 refine bN<|tN<|rE ?_
 refine sAdd (u:Int) 1 ?_
 refine pu1<|nT ?_
 exact ⟨(u+1,(zt.set u (shiftV s1 sh)),n5),od,alA,p5,om,(by rw [hzt,fill_set (midR_len _ _ _ _ _ _ _ _) om,midR,midR,tab_succ,midV,hn_row,<-show a=nrow by omega,<-hs1]),o5⟩
def bytOK (s:StageV):Prop:=(1<=s.kind/\s.kind<=6)/\(¬s.kind=1\/((1<=s.kW/\s.kW<=9)/\1<=s.kH/\s.kH<=9))/\(¬s.kind=2\/(1<=(s.col.length:Int)/\(s.col.length:Int)<=9))/\(¬s.kind=4\/(1<=s.bins/\s.bins<=128))
theorem of_bytOK {q:StageV} {s t:Shape} (h:(ofV q s t).2=0):bytOK q:=by
 unfold ofV at h
 split at h
 ·rename_i hf
  have hk:1<=q.kind/\q.kind<=6:=by unfold fieldsP at hf;omega
  refine ⟨hk,?_⟩
  split at h
  ·split at h
   ·split at h
    ·rename_i h4
     unfold kernelV at h4
     clear h
     split at h4
     ·rename_i k
      unfold convCode at h4
      dsimp only at h4
      split at h4
      ·omega
      ·omega
     ·split at h4
      ·rename_i k
       unfold sepCode at h4
       dsimp only at h4
       split at h4
       ·omega
       ·omega
      ·split at h4
       ·omega
       ·split at h4
        ·split at h4
         ·omega
         ·simp at h4
        ·omega
    ·rename_i h4;exact absurd h h4
   ·simp at h
  ·simp at h
 ·simp at h
end Go.Proofs.Ytmlhcafjelkjfaa
