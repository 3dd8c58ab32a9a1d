import Derived.WalkKit
import Derived.Deep.Quiet
import Derived.KernelRfl
import Derived.Laws.BytesString
import Derived.Laws.Shifts
import Derived.Laws.IdiomStrings
import Derived.OpenShut
import Derived.Deep.Slices
import Derived.ChangeSame
import Derived.Deep.Fields
import Derived.Test.YtghcddbhllkbmaaGreatProg
import Derived.Laws.IdiomRangeMap
import Derived.Test.YtghcddbhllkbmaaGreatR1P1Tm
namespace Go.Proofs.YtghcddbhllkbmaaGreat
open Go Go.E Go.Proofs.Tryz
set_option linter.all false
set_option maxRecDepth 100000
set_option maxHeartbeats 2000000
variable {W w:World} {H:Chunk} {F:List Chunk}
def tabN {α:Type} (f:Nat->α) (n:Nat):List α:=(List.range n).map f
theorem tab_len {α:Type} (f:Nat->α) (n:Nat):(tabN f n).length=n:=by simp [tabN]
theorem tab_succ {α:Type} (f:Nat->α) (n:Nat):tabN f (n+1)=tabN f n++[f n]:=by unfold tabN;rw [List.range_succ,List.map_append];rfl
theorem tab_at {α:Type} {f:Nat->α} {n k:Nat} (h:k<n):(tabN f n)[k]?=some (f k):=by unfold tabN;rw [List.getElem?_map,List.getElem?_range h];rfl
theorem tab_congr {α:Type} {f g:Nat->α} {n:Nat} (h:∀k,k<n->f k=g k):tabN f n=tabN g n:=by unfold tabN;exact List.map_congr_left (fun k hk=>h k (List.mem_range.1 hk))
theorem tab_zero {n:Nat} {α:Type} {z:α} {f:Nat->α} (h:∀k,k<n->f k=z):List.replicate n z=tabN f n:=by
  apply List.ext_getElem?
  intro k
  by_cases hk:k<n
  · rw [tab_at hk,h k hk,List.getElem?_replicate,if_pos hk]
  · rw [List.getElem?_eq_none (by simp;omega),List.getElem?_eq_none (by rw [tab_len];omega)]
def mixN {α:Type} (f g:Nat->α) (i n:Nat):List α:=tabN (fun k=>if k<i then f k else g k) n
theorem mix_len {α:Type} (f g:Nat->α) (i n:Nat):(mixN f g i n).length=n:=tab_len _ _
theorem mix_0 {α:Type} (f g:Nat->α) (n:Nat):mixN f g 0 n=tabN g n:=tab_congr (fun k _=>by rw [if_neg (by omega)])
theorem mix_n {α:Type} (f g:Nat->α) (n:Nat):mixN f g n n=tabN f n:=tab_congr (fun k hk=>by rw [if_pos hk])
theorem mix_at {α:Type} {f g:Nat->α} {i n:Nat} (h:i<n):(mixN f g i n)[i]?=some (g i):=by unfold mixN;rw [tab_at h,if_neg (Nat.lt_irrefl _)]
theorem mix_set {α:Type} {f g:Nat->α} {i n:Nat} {v:α} (hv:v=f i):(mixN f g i n).set i v=mixN f g (i+1) n:=by
 apply List.ext_getElem?
 intro k
 rw [List.getElem?_set]
 by_cases hk:k<n
 ·unfold mixN
  rw [tab_at hk,tab_at hk,tab_len]
  by_cases he:i=k
  ·subst he;rw [if_pos rfl,if_pos hk,if_pos om,hv]
  ·rw [if_neg he]
   by_cases h2:k<i
   ·rw [if_pos h2,if_pos om]
   ·rw [if_neg h2,if_neg om]
 ·rw [List.getElem?_eq_none (l:=mixN f g (i+1) n) (by rw [mix_len];omega),List.getElem?_eq_none (l:=mixN f g i n) (by rw [mix_len];omega)]
  split
  ·rename_i h;subst h;rw [if_neg (by rw [mix_len];omega)]
  ·rfl
theorem fill_setG {α:Type} {z:α} {l:List α} {n m:Nat} {v:α} (h:l.length=n) (hm:n<m):(l++List.replicate (m-n) z).set n v=(l++[v])++List.replicate (m-(n+1)) z:=by
  subst h
  obtain ⟨k,rfl⟩:∃k,m=l.length+1+k:=⟨m-l.length-1,by omega⟩
  rw [show l.length+1+k-l.length=k+1 by omega,show l.length+1+k-(l.length+1)=k by omega,List.set_append_right _ _ (Nat.le_refl _),Nat.sub_self,List.replicate_succ,List.set_cons_zero,List.append_assoc];rfl
def pxR (p:PlaneV) (pol fill x y:Int) (n:Nat):List Int:=tabN (fun k=>pixV p pol fill (x+(k:Int)) y) n
def midR (p:PlaneV) (pol fill:Int) (row:List Int) (sh x y:Int) (n:Nat):List Int:=tabN (fun k=>midV p pol fill row sh (x+(k:Int)) y) n
theorem pxR_len (p:PlaneV) (pol fill x y:Int) (n:Nat):(pxR p pol fill x y n).length=n:=tab_len _ _
theorem midR_len (p:PlaneV) (pol fill:Int) (row:List Int) (sh x y:Int) (n:Nat):(midR p pol fill row sh x y n).length=n:=tab_len _ _
theorem mid_succ {p:PlaneV} {pol fill x y w:Int} {row:List Int} {i:Nat} (hw:row[i]?=some w):midS p pol fill row x y (i+1)=midS p pol fill row x y i+w*pixV p pol fill (x+(i:Int)-(row.length:Int)/2) y:=by
  unfold midS;rw [sumN_succ,List.getD_eq_getElem?_getD,hw];rfl
theorem sep_succ {p:PlaneV} {pol fill sh x y w:Int} {row col:List Int} {j:Nat} (hw:col[j]?=some w):sepS p pol fill row col sh x y (j+1)=sepS p pol fill row col sh x y j+w*midV p pol fill row sh x (y+(j:Int)-(col.length:Int)/2):=by
  unfold sepS;rw [sumN_succ,List.getD_eq_getElem?_getD,hw];rfl
theorem pix_eq {p:PlaneV} {pol fill x y x2 y2:Int} (hx:x=x2) (hy:y=y2):pixV p pol fill x y=pixV p pol fill x2 y2:=by rw [hx,hy]
theorem mid_eq {p:PlaneV} {pol fill sh x y y2:Int} {row:List Int} (hy:y=y2):midV p pol fill row sh x y=midV p pol fill row sh x y2:=by rw [hy]
theorem tapS_succ {p:PlaneV} {pol fill k w:Int} {t:TapV} {i:Nat} (hw:t.weights[i]?=some w):tapS p pol fill t k (i+1)=tapS p pol fill t k i+w*pixV p pol fill (t.first+(i:Int)) k:=by
  unfold tapS;rw [sumN_succ,List.getD_eq_getElem?_getD,hw];rfl
theorem resS_succ {p:PlaneV} {pol fill sh w:Int} {s t:TapV} {j:Nat} (hw:t.weights[j]?=some w):resS p pol fill s t sh (j+1)=resS p pol fill s t sh j+w*tapV p pol fill s sh (t.first+(j:Int)):=by
  unfold resS;rw [sumN_succ,List.getD_eq_getElem?_getD,hw];rfl
def tapR (p:PlaneV) (pol fill:Int) (x:List TapV) (sh x0 k:Int) (n:Nat):List Int:=tabN (fun u=>tapV p pol fill (tapAt x (x0+(u:Int))) sh k) n
theorem tapAt_eq {l:List TapV} {i:Int} {t:TapV} (h:l[i.toNat]?=some t):tapAt l i=t:=by unfold tapAt;rw [h];rfl
theorem inc_set {c:List Int} {k:Int} {v:Int} (h:c[k.toNat]?=some v):c.set k.toNat (v+1)=incV c k:=by unfold incV;rw [List.getD_eq_getElem?_getD,h];rfl
theorem pixAt_eq {p:PlaneV} {x y v:Int} (h:p.pix[(y*p.w+x).toNat]?=some v):pixAt p x y=v:=by unfold pixAt;rw [List.getD_eq_getElem?_getD,h];rfl
theorem colS_succ {p:PlaneV} {x y:Int} {n:Nat}:colS p x y (n+1)=colS p x y n+pixAt p x (y+(n:Int)):=by unfold colS;rw [sumN_succ]
theorem recS_succ {p:PlaneV} {x y:Int} {i j:Nat}:recS p x y (i+1) j=recS p x y i j+colS p (x+(i:Int)) y j:=by unfold recS;rw [sumN_succ]
theorem inM_f {m:Int} {l:List Int} {i:Nat} {v:Int} (h:l[i]?=some v) (hv:¬(0<=v/\v<=m)):¬inM m l=true:=by
  unfold inM;intro e
  exact hv (of_decide_eq_true (List.all_eq_true.1 e v (List.mem_of_getElem? h)))
structure IL where
  l:Sl Int
def encIL (x:IL):List Value:=[.slice x.l.a x.l.n x.l.k]
structure ILV where
  l:List Int
  deriving DecidableEq
def IL.v (x:IL):ILV:=⟨x.l.l⟩
structure IL.Ok (cs:List Chunk) (q:IL):Prop where
  l:RdT Go.E.encI 1 cs q.l.a q.l.n q.l.k q.l.l
theorem IL.Ok.of_mem {cs cs':List Chunk} {x:IL} (h:IL.Ok cs x) (hm:∀p∈cs.flatten,p∈cs'.flatten):IL.Ok cs' x:=⟨h.l.of_mem hm⟩
theorem own_setSame {α:Type} {enc:α->List Value} {E sz:Nat} {a:Option Addr} {n k i:Nat} {xs:List α} {x y:α} {c:Chunk} (h:OwnT enc E sz a n k (xs.set i x) c) (e:enc x=enc y):OwnT enc E sz a n k (xs.set i y) c:=by
  have e2:(xs.set i x).flatMap enc=(xs.set i y).flatMap enc:=by rw [List.flatMap_def,List.flatMap_def,List.map_set,List.map_set,e]
  obtain ⟨h1,h2,h3⟩:=h
  rw [e2] at h3
  exact ⟨by rw [<-h1,List.length_set,List.length_set],h2,h3⟩
theorem rows_at {ms:List IL} {f:Nat->List Int} {n k:Nat} {x:IL} (h:ms.map (fun z=>z.l.l)=tabN f n) (hx:ms[k]?=some x) (hk:k<n):x.l.l=f k:=by
  have e:=congrArg (fun l=>l[k]?) h
  simp only [List.getElem?_map,hx,Option.map_some,tab_at hk] at e
  exact Option.some.inj e
theorem p10_pixels (p:Plane) (e0:Edge) (x:Int) (y:Int) (cnt:Int) (hp:Plane.Ok [H] p) (hpo:planeOK p.v=true) (hev:edgeV e0.policy e0.fill p.max_) (hcn:0<=cnt/\cnt<=1000) (hxy:-1000000<=x/\x<=1000000) (hS:Sat W w (H::F)):
  Calls prog 131 #[.agg (encPlane p).toArray, .agg #[I e0.policy,I e0.fill],I x,I y,I cnt] w fun e w'=>∃(az:Option Addr) (nz kz:Nat) (zs:List Int) (G:Chunk),e= .returned (.slice az nz kz)/\RdT Go.E.encI 1 [G] az nz kz zs/\zs=pxR p.v e0.policy e0.fill x y cnt.toNat/\Sat W w' (G::H::F):=by
 have E0:=hp.pix.le;have A0:=hp.pix.len
 have I0:=(plane_sz hpo).1;unfold sizeP at I0;simp only [Plane.v] at I0;have J0:p.v.pix.length=p.pix.n:=A0;obtain ⟨N,hN⟩:∃k:Nat,cnt=(k:Int):=⟨_,(Int.toNat_of_nonneg om).symm⟩
 refine callsK 68 func131 rfl<|jCO 2 rfl<|sBx hS (encPlane p) fun _ _ f0=>sBx f0 [I e0.policy,I e0.fill] fun _ _ g0=>jOO 6 rfl<|sMake (kl:= .i64) (kc:= .i64) (enc:=Go.E.encI) (sz:=1) (nb:=8) g0 0 (cnt).toNat cnt (om:cnt=(((cnt).toNat:Nat):Int)) underlying22 (i:=Tryz.t3) kr fR fun h0 i0 _ j0 d0=>gOO d0 10 [2,1] rfl<|cS (p3_index y p.h e0.policy d0.flat) fun _ k0=>jOC 16 rfl<|loopF [2,5,6,12,13,29] (γ:=Nat×(List Int)×SO) (fun ⟨i,zs,B0,D0,C0,F0⟩ R=>⟨[(30,I (i:Int)),(11, .slice B0 D0 C0)],F0::R,N-i,i<=N/\(zs.length=N)/\(zs=pxR p.v e0.policy e0.fill x y i++List.replicate (N-i) 0)/\OwnT Go.E.encI 3 1 B0 D0 C0 zs F0⟩) (0,(List.replicate (cnt).toNat 0),(At h0 0),(cnt).toNat,(cnt).toNat,i0) ⟨k0,om,(by rw [List.length_replicate];omega),(by rw [show (cnt).toNat=N by omega];rfl),j0⟩ ?_
 rintro ⟨i,zs,B0,D0,C0,F0⟩ ρ _ ⟨c0,hi,G0,hE,m0⟩
 have H0:=m0.ll
 exact jCC 6 rfl<|CD ((i:Int)<(((cnt).toNat:Nat):Int)) (fun l0=>jCR 12 rfl<|retT [.slice B0 D0 C0]<|(by have M0:zs=pxR p.v e0.policy e0.fill x y N:=(by rw [hE,show i=N by omega,Nat.sub_self,List.replicate_zero,List.append_nil]);exact ⟨B0,D0,C0,zs,_,rfl,(m0.rdAt (cs:=[F0]) 0 rfl),(by rw [show cnt.toNat=N by omega];exact M0),(c0.drops [1,1])⟩)) fun l0=>jCO 14 rfl<|sAdd x (i:Int)<|gOO c0 4 [2,1] rfl<|cS (p3_index (x+(i:Int)) p.w e0.policy c0.flat) fun _ a0=>jOO 11 rfl<|SB 45 ((idxV (x+(i:Int)) p.w e0.policy).isSome) (fun n0=>gOO a0 10 [1] rfl<|sIO m0 (i:Int) i fun o0 _ _ p0 _ q0=>sStF a0 m0 q0 0 i 0 o0 e0.fill p0 (I e0.fill) [I e0.fill] sizeOf3 fun _ r0 s0 t0=>jOO 4 rfl<|sAdd (i:Int) 1<|jOI 2 rfl<|⟨(i+1,(zs.set i e0.fill),B0,D0,C0,r0),od,alB,t0,om,(by rw [List.length_set];exact G0),(by rw [hE,fill_set (pxR_len _ _ _ _ _ _) om,pxR,pxR,tab_succ,pixV_fill (p:=p.v) (by first|exact .inl ‹_›|exact .inr ‹_›)]),s0⟩) fun n0=>jOC 4 rfl<|CB ((idxV y p.h e0.policy).isSome) (fun u0=>gCO a0 5 [1] rfl<|sIO m0 (i:Int) i fun v0 _ _ w0 _ x0=>sStF a0 m0 x0 0 i 0 v0 e0.fill w0 (I e0.fill) [I e0.fill] sizeOf3 fun _ y0 z0 a1=>jOO 4 rfl<|sAdd (i:Int) 1<|jOI 2 rfl<|⟨(i+1,(zs.set i e0.fill),B0,D0,C0,y0),od,alB,a1,om,(by rw [List.length_set];exact G0),(by rw [hE,fill_set (pxR_len _ _ _ _ _ _) om,pxR,pxR,tab_succ,pixV_fill (p:=p.v) (by first|exact .inl ‹_›|exact .inr ‹_›)]),z0⟩) fun u0=>(by have L0:=idx_some (i:=y) (n:=p.h) (p:=e0.policy) ‹_›;have K0:=idx_some (i:=x+(i:Int)) (n:=p.w) (p:=e0.policy) ‹_›;have hix:=pl_ix hpo K0 L0;rw [J0] at hix;simp only [Plane.v] at hix;exact gCO a0 8 [2,2] rfl<|sMul ((idxV y p.h e0.policy).getD 0) p.w<|pu1<|sAdd (((idxV y p.h e0.policy).getD 0)*p.w) ((idxV (x+(i:Int)) p.w e0.policy).getD 0)<|sII hp.pix ((((idxV y p.h e0.policy).getD 0)*p.w)+((idxV (x+(i:Int)) p.w e0.policy).getD 0)) fun b0 _ _ b1 c1=>sMp a0 (c1.up 3 rfl) 0 (I b0)<|sIO m0 (i:Int) i fun d1 _ _ e1 _ f1=>sStF a0 m0 f1 0 i 0 d1 b0 e1 (I b0) [I b0] sizeOf3 fun _ g1 h1 i1=>jOO 4 rfl<|sAdd (i:Int) 1<|jOI 2 rfl<|⟨(i+1,(zs.set i b0),B0,D0,C0,g1),od,alB,i1,om,(by rw [List.length_set];exact G0),(by rw [hE,fill_set (pxR_len _ _ _ _ _ _) om,pxR,pxR,tab_succ,pixV_get (p:=p.v) ‹_› ‹_› b1]),h1⟩)
theorem p10_tile (p:Plane) (e0:Edge) (arow:Option Addr) (nrow krow:Nat) (row:List Int) (acol:Option Addr) (ncol kcol:Nat) (col:List Int) (sh:Int) (sh2:Int) (out:Int) (r:Rct) (hp:Plane.Ok [H] p) (hrow:RdT Go.E.encI 1 [H] arow nrow krow row) (hcol:RdT Go.E.encI 1 [H] acol ncol kcol col) (hS:Sat W w (H::F)):
  Calls prog 90 #[.agg (encPlane p).toArray, .agg #[I e0.policy,I e0.fill], .slice arow nrow krow, .slice acol ncol kcol,I sh,I sh2,I out, .agg (encRct r).toArray] w fun e w'=>∃(q:Plane) (c:Int) (G:Chunk),e= .returned (.tuple #[.agg (encPlane q).toArray,I c])/\q.Ok [G]/\(q.v,c)=sepT p.v e0.policy e0.fill row col sh sh2 out r/\Sat W w' (G::H::F):=by
 have hl_p_pix:=hp.pix.le;have hn_p_pix:=hp.pix.len
 have hl_row:=hrow.le;have hn_row:=hrow.len
 have hl_col:=hcol.le;have hn_col:=hcol.len
 refine callsK 209 func90 rfl<|jCO 2 rfl<|sBox hS (.agg (encPlane p).toArray) (encPlane p).toArray fun e1 _ t2=>sBox t2 (.agg #[I e0.policy,I e0.fill]) #[I e0.policy,I e0.fill] fun f1 _ u2=>sBox u2 (.agg (encRct r).toArray) (encRct r).toArray fun g1 _ v2=>sAlloc v2 zeroValue38 fun i1 _ j1=>gOO j1 7 [403] rfl<|cR call52 (p4_valid p ⟨(RdT.flat (hp.pix.up 4 (by rfl)))⟩ j1.flat) fun _ q0=>pu2<|sBn 35 (planeOK p.v) (fun a0=>?_) (fun a0=>?_)
 rotate_left
 ·refine jOO 12 rfl<|sTl q0 0 [I 0,I 0,I 0,nS] sizeOf38 fun _ k1=>jOR 5 rfl<|retC k1 0 [I 0,I 0,I 0,nS] (I 1) (isAgg38 _) (sizeOf38 _) ?_
  have hC:edgC p.v e0.policy e0.fill (sepCode p.v.max_ row col sh sh2 out) p.v.w p.v.h r=1:=edgC_a (fun h=>a0 h.1)
  have w2:=(k1.drops [0,0,0,0])
  have x2:Sat W _ ([]::H::F):=Sat.nilc w2
  exact ⟨(⟨0,0,0,⟨none,0,0,[]⟩⟩:Plane),1,_,rfl,⟨RdT.nil (enc:=Go.E.encI) (sz:=1) fR [[]]⟩,(by unfold sepT;rw [okT_c hC om];rfl),x2⟩
 refine gOO q0 3 [202,3] rfl<|gY<|cR call124 (p3_valid e0 p.max_ q0.flat) fun _ r0=>jOC 4 rfl<|cDn ((e0.policy=3/\0<=e0.fill/\e0.fill<=p.max_)\/(0<=e0.policy/\e0.policy<3/\e0.fill=0)) (fun b0=>?_) (fun b0=>?_)
 rotate_left
 ·refine jCO 3 rfl<|sTl r0 0 [I 0,I 0,I 0,nS] sizeOf38 fun _ l1=>jOR 5 rfl<|retC l1 0 [I 0,I 0,I 0,nS] (I 1) (isAgg38 _) (sizeOf38 _) ?_
  have hC:edgC p.v e0.policy e0.fill (sepCode p.v.max_ row col sh sh2 out) p.v.w p.v.h r=1:=edgC_a (fun h=>b0 h.2)
  have y2:=(l1.drops [0,0,0,0])
  have z2:Sat W _ ([]::H::F):=Sat.nilc y2
  exact ⟨(⟨0,0,0,⟨none,0,0,[]⟩⟩:Plane),1,_,rfl,⟨RdT.nil (enc:=Go.E.encI) (sz:=1) fR [[]]⟩,(by unfold sepT;rw [okT_c hC om];rfl),z2⟩
 refine gCO r0 12 [3] rfl<|cR call130 (p10_check p.max_ arow nrow krow row acol ncol kcol col sh sh2 out (RdT.flat (hrow.up 4 (by rfl))) (RdT.flat (hcol.up 4 (by rfl))) r0.flat) fun _ s0=>jOC 9 rfl<|cN (sepCode p.max_ row col sh sh2 out) 0 (fun a3=>?_) (fun a3=>?_)
 rotate_left
 ·refine jCO 4 rfl<|sTl s0 0 [I 0,I 0,I 0,nS] sizeOf38 fun _ m1=>jOR 5 rfl<|retC m1 0 [I 0,I 0,I 0,nS] (I (sepCode p.max_ row col sh sh2 out)) (isAgg38 _) (sizeOf38 _) ?_
  have hC:edgC p.v e0.policy e0.fill (sepCode p.v.max_ row col sh sh2 out) p.v.w p.v.h r=(sepCode p.max_ row col sh sh2 out):=edgC_b ⟨a0,b0⟩ (by simp only [Plane.v] at*;omega)
  have b3:=(m1.drops [0,0,0,0])
  have c3:Sat W _ ([]::H::F):=Sat.nilc b3
  exact ⟨(⟨0,0,0,⟨none,0,0,[]⟩⟩:Plane),(sepCode p.max_ row col sh sh2 out),_,rfl,⟨RdT.nil (enc:=Go.E.encI) (sz:=1) fR [[]]⟩,(by unfold sepT;rw [okT_c hC om];rfl),c3⟩
 refine gCO s0 6 [401] rfl<|cR call53 (p2_empty r s0.flat) fun _ t0=>pu1<|sD 57 (r.x0=0/\r.y0=0/\r.x1=0/\r.y1=0) (fun u0=>?_) (fun u0=>?_)
 ·refine jOO 15 rfl<|sTl t0 0 [I 0,I 0,I 0,nS] sizeOf38 fun _ n1=>jOR 5 rfl<|retC n1 0 [I 0,I 0,I 0,nS] (I 8) (isAgg38 _) (sizeOf38 _) ?_
  have hsz:=(plane_sz a0).1;unfold sizeP at hsz;simp only [Plane.v] at hsz
  have hC:edgC p.v e0.policy e0.fill (sepCode p.v.max_ row col sh sh2 out) p.v.w p.v.h r=8:=edgC_c ⟨a0,b0⟩ (by simp only [Plane.v] at*;omega) (fun h=>by have h2:=(ins_in (by simp only [Plane.v];omega) (by simp only [Plane.v];omega)).2 h;exact h2.1 u0)
  have d3:=(n1.drops [0,0,0,0])
  have e3:Sat W _ ([]::H::F):=Sat.nilc d3
  exact ⟨(⟨0,0,0,⟨none,0,0,[]⟩⟩:Plane),8,_,rfl,⟨RdT.nil (enc:=Go.E.encI) (sz:=1) fR [[]]⟩,(by unfold sepT;rw [okT_c hC om];rfl),e3⟩
 refine gOO t0 6 [401,3,3] rfl<|gY<|cR call54 (p2_inside r (⟨0,0,p.w,p.h⟩:Rct) t0.flat) fun _ i0=>jOC 4 rfl<|cDn (insP r (⟨0,0,p.w,p.h⟩:Rct)) (fun v0=>?_) (fun v0=>?_)
 rotate_left
 ·refine jCO 3 rfl<|sTl i0 0 [I 0,I 0,I 0,nS] sizeOf38 fun _ o1=>jOR 5 rfl<|retC o1 0 [I 0,I 0,I 0,nS] (I 8) (isAgg38 _) (sizeOf38 _) ?_
  have hsz:=(plane_sz a0).1;unfold sizeP at hsz;simp only [Plane.v] at hsz
  have hC:edgC p.v e0.policy e0.fill (sepCode p.v.max_ row col sh sh2 out) p.v.w p.v.h r=8:=edgC_c ⟨a0,b0⟩ (by simp only [Plane.v] at*;omega) (fun h=>by have h2:=(ins_in (by simp only [Plane.v];omega) (by simp only [Plane.v];omega)).2 h;exact v0 h2.2)
  have f3:=(o1.drops [0,0,0,0])
  have g3:Sat W _ ([]::H::F):=Sat.nilc f3
  exact ⟨(⟨0,0,0,⟨none,0,0,[]⟩⟩:Plane),8,_,rfl,⟨RdT.nil (enc:=Go.E.encI) (sz:=1) fR [[]]⟩,(by unfold sepT;rw [okT_c hC om];rfl),g3⟩
 refine jCC 3 rfl ?_
 have hpo:planeOK p.v=true:=a0;have hev:edgeV e0.policy e0.fill p.max_:=b0;have hcc:(sepCode p.v.max_ row col sh sh2 out)=0:=by simp only [Plane.v];omega
 have hsz:=(plane_sz hpo).1;unfold sizeP at hsz;simp only [Plane.v] at hsz;have hri:rIn r p.w p.h:=(ins_in om om).1 ⟨u0,v0⟩
 have hri0:=hri;unfold rIn at hri0;obtain ⟨hcl,hcs,hco,hbr,hbc⟩:=sep_ok hcc
 obtain ⟨Wn,hW⟩:∃k:Nat,r.x1-r.x0=(k:Int):=⟨_,(Int.toNat_of_nonneg om).symm⟩;obtain ⟨Hn,hH⟩:∃k:Nat,r.y1-r.y0=(k:Int):=⟨_,(Int.toNat_of_nonneg om).symm⟩
 have hWb:1<=Wn/\Wn<=128/\1<=Hn/\Hn<=128:=om;have hWH:Hn*Wn<=4096:=by have h1:=rIn_area hri (by first|omega|assumption);rw [hW,hH] at h1;have h2:((Hn*Wn:Nat):Int)=(Wn:Int)*(Hn:Int):=(by push_cast;rw [Int.mul_comm]);omega
 have hWi:(r.x1-r.x0)*(r.y1-r.y0)=((Hn*Wn:Nat):Int):=by rw [hW,hH];push_cast;rw [Int.mul_comm]
 have ht1:(nrow:Int).tdiv 2=(nrow:Int)/2:=Int.tdiv_eq_ediv_of_nonneg om;have ht2:(ncol:Int).tdiv 2=(ncol:Int)/2:=Int.tdiv_eq_ediv_of_nonneg om;have har:=(wCode_len (bnd_t hbr).1).2.2;have hac:=(wCode_len (bnd_t hbc).1).2.2
 have hKN:r.y1-r.y0+(ncol:Int)-1=((Hn+ncol-1:Nat):Int):=by omega
 refine gCO i0 5 [1,1] rfl<|sSub r.x1 r.x0<|gOO i0 4 [1,1] rfl<|sSub r.y1 r.y0<|pu2<|sAlloc i0 zeroValue38 fun j0 _ h3=>sTl h3 0 [I (r.x1-r.x0),I (r.y1-r.y0),I out,nS] sizeOf38 fun _ q1=>gOO q1 8 [0] rfl<|sAdd (r.y1-r.y0) (ncol:Int)<|sSub ((r.y1-r.y0)+(ncol:Int)) 1<|sMake (kl:= .i64) (kc:= .i64) (enc:=encIL) (sz:=1) (nb:=24) q1 ⟨⟨none,0,0,[]⟩⟩ ((((r.y1-r.y0)+(ncol:Int))-1)).toNat (((r.y1-r.y0)+(ncol:Int))-1) (om:(((r.y1-r.y0)+(ncol:Int))-1)=((((((r.y1-r.y0)+(ncol:Int))-1)).toNat:Nat):Int)) underlying42 (i:=Tryz.t22) kr fR fun i3 j3 _ k3 l3=>jOC 5 rfl ?_
 have m3:=Sat.nilc l3
 refine jCC 7 rfl ?_
 have n3:=(m3.pick 1 rfl)
 have o3:=(n3.pick 1 rfl)
 refine loopF [2,3,4,5,6,8,9,15,16,19,88] (γ:=Nat×(List IL)×(Option Addr)×Nat×Nat×Chunk×Chunk) (fun ⟨i,ms,ams,nms,kms,cms,Gms⟩ R=>⟨[(89,I (i:Int)),(20, .slice ams nms kms)],Gms::cms::R,(Hn+ncol-1)-i,i<=Hn+ncol-1/\(ms.length=Hn+ncol-1)/\(ms.map (fun z=>z.l.l)=tabN (fun t=>midR p.v e0.policy e0.fill row sh r.x0 (r.y0-(col.length:Int)/2+(t:Int)) Wn) i++List.replicate (Hn+ncol-1-i) [])/\OwnT encIL 22 1 ams nms kms ms cms/\(∀z∈ms,IL.Ok [Gms] z)⟩) (0,(List.replicate ((((r.y1-r.y0)+(ncol:Int))-1)).toNat ⟨⟨none,0,0,[]⟩⟩),(At i3 0),((((r.y1-r.y0)+(ncol:Int))-1)).toNat,((((r.y1-r.y0)+(ncol:Int))-1)).toNat,j3,[]) ⟨o3,om,(by rw [List.length_replicate];omega),(by rw [List.map_replicate,show (r.y1-r.y0+(ncol:Int)-1).toNat=Hn+ncol-1 by omega];rfl),k3,(fun z hz=>by rw [List.eq_of_mem_replicate hz];exact ⟨RdT.nil (enc:=Go.E.encI) (sz:=1) fR _⟩)⟩ ?_
 rintro ⟨i,ms,ams,nms,kms,cms,Gms⟩ ρ _ ⟨c0,hi,hml,hms,hOms,hDms⟩
 have hn_ms:=hOms.len;have hl_ms:=hOms.le
 refine jCC 6 rfl<|cD ((i:Int)<((((((r.y1-r.y0)+(ncol:Int))-1)).toNat:Nat):Int)) (fun p3=>?_) (fun p3=>?_)
 ·refine gCO c0 18 [406,205,4] rfl<|sQuo (nrow:Int) 2<|sSub r.x0 ((nrow:Int).tdiv 2)<|gOO c0 4 [4] rfl<|sQuo (ncol:Int) 2<|sSub r.y0 ((ncol:Int).tdiv 2)<|pu1<|sAdd (r.y0-((ncol:Int).tdiv 2)) (i:Int)<|gOO c0 4 [2] rfl<|sAdd (r.x1-r.x0) (nrow:Int)<|sSub ((r.x1-r.x0)+(nrow:Int)) 1<|cX call131 (p10_pixels p e0 (r.x0-((nrow:Int).tdiv 2)) ((r.y0-((ncol:Int).tdiv 2))+(i:Int)) (((r.x1-r.x0)+(nrow:Int))-1) ⟨(RdT.flat (hp.pix.up 7 (by rfl)))⟩ hpo hev om om c0.flat) ?_
  rintro _ _ ⟨_,_,_,r1,_,rfl,w0,q3,r3⟩
  have t1:=r3.unflat1
  have hn_az_61:=w0.len;have hl_az_61:=w0.le
  refine gOO t1 9 [3] rfl<|sMake (kl:= .i64) (kc:= .i64) (enc:=Go.E.encI) (sz:=1) (nb:=8) t1 0 ((r.x1-r.x0)).toNat (r.x1-r.x0) (om:(r.x1-r.x0)=((((r.x1-r.x0)).toNat:Nat):Int)) underlying22 (i:=Tryz.t3) kr fR fun k0 u1 _ s3 u3=>sIdxO hOms (i:Int) i runUnderlying42 sizeOf22 fun v3 _ _ v1 _ w3=>sStF u3 hOms w3 3 i 0 v3 (⟨⟨(At k0 0),((r.x1-r.x0)).toNat,((r.x1-r.x0)).toNat,(List.replicate ((r.x1-r.x0)).toNat 0)⟩⟩:IL) v1 (.slice (At k0 0) (((r.x1-r.x0)).toNat) (((r.x1-r.x0)).toNat)) [.slice (At k0 0) (((r.x1-r.x0)).toNat) (((r.x1-r.x0)).toNat)] sizeOf22 fun _ z0 x3 w1=>jOC 3 rfl ?_
  obtain ⟨m,hm⟩:∃m:IL,m=(⟨⟨(At k0 0),((r.x1-r.x0)).toNat,((r.x1-r.x0)).toNat,(List.replicate ((r.x1-r.x0)).toNat 0)⟩⟩:IL):=⟨_,rfl⟩
  have l0:=x3;rw [<-hm] at l0
  have y3:OwnT Go.E.encI 3 1 m.l.a m.l.n m.l.k (List.replicate ((r.x1-r.x0)).toNat 0) u1:=by rw [hm];exact s3
  have hmn:m.l.n=Wn:=by rw [hm];first|rfl|(dsimp only;omega)
  have z1:=set_at (y:=m) v1
  obtain ⟨yk,hyk⟩:∃k:Int,k=r.y0-(ncol:Int)/2+(i:Int):=⟨_,rfl⟩
  have hsrc:r1=pxR p.v e0.policy e0.fill (r.x0-(nrow:Int)/2) yk (Wn+nrow-1):=by rw [q3,ht1,ht2,<-hyk];congr 1;omega
  have hsn:r1.length=Wn+nrow-1:=by rw [hsrc];exact tab_len _ _
  refine jCO 3 rfl<|sIdxO l0 (i:Int) i runUnderlying42 sizeOf22 fun z3 _ _ a4 b4 _=>?_
  obtain rfl:m=z3:=Option.some.inj (z1.symm.trans a4)
  refine sLp w1 (b4.up 3 rfl) 0 (.slice m.l.a m.l.n m.l.k) (isAgg22 _)<|jOC 5 rfl<|loopF [2,3,4,5,6,8,9,15,16,19,88,89,20,21,22,125] (γ:=Nat×(List Int)×Chunk) (fun ⟨u,zt,czt⟩ R=>⟨[(126,I (u:Int))],czt::R,Wn-u,u<=Wn/\(zt=midR p.v e0.policy e0.fill row sh r.x0 yk u++List.replicate (Wn-u) 0)/\OwnT Go.E.encI 3 1 m.l.a m.l.n m.l.k zt czt⟩) (0,(List.replicate ((r.x1-r.x0)).toNat 0),u1) ⟨w1,om,(by rw [show (r.x1-r.x0).toNat=Wn by omega];rfl),y3⟩ ?_
  rintro ⟨u,zt,czt⟩ ρ _ ⟨a2,hu,hzt,hOzt⟩
  have hn_zt:=hOzt.len;have hl_zt:=hOzt.le
  refine jCC 6 rfl<|cD ((u:Int)<(m.l.n:Int)) (fun c4=>?_) (fun c4=>?_)
  rotate_left
  ·refine jCO 7 rfl<|sAdd (i:Int) 1<|jOI 2 rfl ?_
   have d4:=own_setSame (y:=(⟨⟨m.l.a,m.l.n,m.l.k,zt⟩⟩:IL)) l0 rfl
   have e4:=(a2.dropAt 1 rfl)
   have f4:=(Sat.perm (cs':=(czt++Gms)::(z0::[(j0, .cells #[I (r.x1-r.x0),I (r.y1-r.y0),I out,nS] 38 (0,0))]::[(i1, .cells #[I 0,I 0,I 0,nS] 38 (0,0))]::[(g1, .cells (encRct r).toArray 45 (0,0))]::[(f1, .cells #[I e0.policy,I e0.fill] 49 (0,0))]::[(e1, .cells (encPlane p).toArray 38 (0,0))]::H::F)) (show Sat W _ (czt::Gms::z0::[(j0, .cells #[I (r.x1-r.x0),I (r.y1-r.y0),I out,nS] 38 (0,0))]::[(i1, .cells #[I 0,I 0,I 0,nS] 38 (0,0))]::[(g1, .cells (encRct r).toArray 45 (0,0))]::[(f1, .cells #[I e0.policy,I e0.fill] 49 (0,0))]::[(e1, .cells (encPlane p).toArray 38 (0,0))]::H::F) from e4) (by simp))
   exact ⟨(i+1,(ms.set i (⟨⟨m.l.a,m.l.n,m.l.k,zt⟩⟩:IL)),ams,nms,kms,z0,(czt++Gms)),od,alB,f4,om,(by rw [List.length_set];exact hml),(by rw [List.map_set,hms,fill_setG (tab_len _ _) om,tab_succ,hzt,show u=Wn by omega,Nat.sub_self,List.replicate_zero,List.append_nil,hn_col,hyk]),d4,(mem_set (fun z hz=>(hDms z hz).of_mem mS) ⟨hOzt.rd mS⟩)⟩
  refine jCC 24 rfl<|loopF [2,3,4,5,6,8,9,15,16,19,88,89,20,21,22,125,126,23,129,130] (γ:=Nat×Int) (fun ⟨a,s1⟩ R=>⟨[(131,I (a:Int)),(24,I s1)],R,nrow-a,a<=nrow/\(s1=midS p.v e0.policy e0.fill row (r.x0+(u:Int)) yk a)⟩) (0,0) ⟨a2,om,by rfl⟩ ?_
  rintro ⟨a,s1⟩ ρ _ ⟨m0,ha,hs1⟩
  have hsb:=mid_part (row:=row) (x:=r.x0+(u:Int)) (y:=yk) hpo hev hcc (n:=a) om
  refine jCC 6 rfl<|cD ((a:Int)<(nrow:Int)) (fun g4=>?_) (fun g4=>?_)
  ·refine jCO 7 rfl<|sIdx hrow (a:Int) runUnderlying22 sizeOf3 fun n0 _ _ a1 h4=>?_
   rw [Int.toNat_natCast] at a1
   have hwx:=areW_at har a1
   refine sLp m0 (h4.up 9 rfl) 0 (I n0) (isAgg3 _)<|jOO 10 rfl<|sAdd (u:Int) (a:Int)<|sIdx w0 ((u:Int)+(a:Int)) runUnderlying22 sizeOf3 fun d0 _ _ i4 j4=>?_
   have hpv:d0=pixV p.v e0.policy e0.fill (r.x0+(u:Int)+(a:Int)-(row.length:Int)/2) yk:=by have h:=i4;rw [hsrc,pxR,tab_at om] at h;rw [<-Option.some.inj h];exact pix_eq om rfl
   have hpx:=pix_bd hpo hev (x:=r.x0+(u:Int)+(a:Int)-(row.length:Int)/2) (y:=yk);rw [<-hpv] at hpx;have hpm:=wmul_bd (v:=d0) (B:=4294967296) hwx (by simp only [Plane.v] at*;omega) (by decide)
   exact sLp m0 (j4.up 1 rfl) 0 (I d0) (isAgg3 _)<|sMul n0 d0<|sAdd s1 (n0*d0)<|jOO 5 rfl<|sAdd (a:Int) 1<|jOI 2 rfl<|⟨(a+1,(s1+(n0*d0))),od,alB,m0,om,(by rw [mid_succ a1,<-hs1,<-hpv])⟩
  refine jCC 5 rfl ?_
  obtain ⟨k4,t6,u6,b2,b1,c2,v6⟩:=OwnT.elem l0 (i:Int)
  rw [Int.toNat_natCast] at b2 b1 c2
  obtain rfl:m=k4:=Option.some.inj (z1.symm.trans b2)
  obtain ⟨l4,w6,x6,d2,m4,e2,n4⟩:=OwnT.elem hOzt (u:Int)
  rw [Int.toNat_natCast] at d2 m4 e2
  refine drawF m0 [7,9] (fq 3 0 (b1.up 3 rfl)<|fn) [0,1,2,4,5,6,3,7,8,9] fun _ o4=>wV 2<|wI c2<|wV 3<|wL 0<|wO rfl<|cR call129 (p7_shift s1 sh o4.flat) fun _ f2=>nilO ⟨⟨.inr ((b1.up 3 rfl).cell f2 (k:=0) rfl),trivial⟩,?_⟩
  refine wI e2<|wO rfl<|sStF f2 hOzt n4 0 u 0 l4 (shiftV s1 sh) d2 (I (shiftV s1 sh)) [I (shiftV s1 sh)] sizeOf3 fun _ p4 q4 r4=>nA<|wN<|jXO 3 rfl<|sAdd (u:Int) 1<|jOI 2 rfl ?_
  exact ⟨(u+1,(zt.set u (shiftV s1 sh)),p4),od,alB,r4,om,(by rw [hzt,fill_set (midR_len _ _ _ _ _ _ _ _) om,midR,midR,tab_succ,midV,hn_row,<-show a=nrow by omega,<-hs1]),q4⟩
 refine jCC 6 rfl ?_
 have hmr:ms.map (fun z=>z.l.l)=tabN (fun t=>midR p.v e0.policy e0.fill row sh r.x0 (r.y0-(col.length:Int)/2+(t:Int)) Wn) (Hn+ncol-1):=by rw [hms,show i=Hn+ncol-1 by omega,Nat.sub_self,List.replicate_zero,List.append_nil]
 refine gCO c0 5 [2,2] rfl<|sMul (r.x1-r.x0) (r.y1-r.y0)<|sMake0 (kl:= .i64) (kc:= .i64) (enc:=Go.E.encI) (sz:=1) (nb:=8) c0 (((r.x1-r.x0)*(r.y1-r.y0))).toNat ((r.x1-r.x0)*(r.y1-r.y0)) (om:((r.x1-r.x0)*(r.y1-r.y0))=(((((r.x1-r.x0)*(r.y1-r.y0))).toNat:Nat):Int)) underlying22 (i:=Tryz.t3) kr fR fun g2 s4 _ t4 u4=>pu1<|tW u4 3 3 (.slice (At g2 0) 0 ((((r.x1-r.x0)*(r.y1-r.y0))).toNat)) sizeOf22 fun _ i2=>jOC 4 rfl ?_
 obtain ⟨f,hf⟩:∃f:Int->Int->Int,f=fun i j=>sepX p.v e0.policy e0.fill row col sh sh2 out (r.x0+i) (r.y0+j):=⟨_,rfl⟩
 refine gCC i2 7 [3] rfl<|loopF [3,5,6,16,19,20,166] (γ:=Nat×(List Int)×(Option Addr)×Nat×Nat×Chunk) (fun ⟨i,zs,azs,nzs,kzs,czs⟩ R=>⟨[(167,I (i:Int))],czs::Gms::cms::[(j0, .cells #[I (r.x1-r.x0),I (r.y1-r.y0),I out, .slice azs nzs kzs] 38 (0,0))]::R,Hn-i,i<=Hn/\(zs=gridN Wn f (i*Wn))/\OwnT Go.E.encI 3 1 azs nzs kzs zs czs⟩) (0,[],(At g2 0),0,(((r.x1-r.x0)*(r.y1-r.y0))).toNat,s4) ⟨i2,om,(by rw [Nat.zero_mul];rfl),t4⟩ ?_
 rintro ⟨i,zs,azs,nzs,kzs,czs⟩ ρ _ ⟨o0,hi,hE,hOzs⟩
 have hn_zs:=hOzs.len;have hl_zs:=hOzs.le
 refine jCC 6 rfl<|cD ((i:Int)<(r.y1-r.y0)) (fun v4=>?_) (fun v4=>?_)
 rotate_left
 ·refine gCO o0 8 [403] rfl<|sTl o0 4 [I (r.x1-r.x0),I (r.y1-r.y0),I out, .slice azs nzs kzs] sizeOf38 fun _ j2=>jOR 4 rfl<|retC j2 4 [I (r.x1-r.x0),I (r.y1-r.y0),I out, .slice azs nzs kzs] (I 0) (isAgg38 _) (sizeOf38 _) ?_
  have hz9:zs=gridN Wn f (Hn*Wn):=by rw [hE,show i=Hn by omega]
  have hC:edgC p.v e0.policy e0.fill (sepCode p.v.max_ row col sh sh2 out) p.v.w p.v.h r=0:=edgC_ok hpo hev hcc hri
  exact ⟨(⟨(r.x1-r.x0),(r.y1-r.y0),out,⟨azs,nzs,kzs,zs⟩⟩:Plane),0,_,rfl,⟨(hOzs.rdAt (cs:=[czs]) 0 rfl)⟩,(by unfold sepT;rw [okT_0 hC,mk_pl hri hW hH (hf▸hz9)];rfl),(j2.drops [1,1,1,1,1,1,1])⟩
 refine gCC o0 18 [3] rfl<|loopF [3,5,6,16,19,20,166,167,27,171] (γ:=Nat×(List Int)×(Option Addr)×Nat×Nat×Chunk) (fun ⟨j,zt,azt,nzt,kzt,czt⟩ R=>⟨[(172,I (j:Int))],czt::Gms::cms::[(j0, .cells #[I (r.x1-r.x0),I (r.y1-r.y0),I out, .slice azt nzt kzt] 38 (0,0))]::R,Wn-j,j<=Wn/\(zt=gridN Wn f (i*Wn+j))/\OwnT Go.E.encI 3 1 azt nzt kzt zt czt⟩) (0,zs,azs,nzs,kzs,czs) ⟨o0,om,(by rw [Nat.add_zero];exact hE),hOzs⟩ ?_
 rintro ⟨j,zt,azt,nzt,kzt,czt⟩ ρ _ ⟨k2,hj,hE2,hOzt⟩
 have hn_zt:=hOzt.len;have hl_zt:=hOzt.le
 have hzl:zt.length=i*Wn+j:=by rw [hE2,grid_len]
 have hij:i*Wn+j<=Hn*Wn:=by have h1:=Nat.mul_le_mul_right Wn (show i+1<=Hn by omega);rw [Nat.add_mul,Nat.one_mul] at h1;omega
 refine jCC 6 rfl<|cD ((j:Int)<(r.x1-r.x0)) (fun x4=>?_) (fun x4=>?_)
 rotate_left
 ·refine jCO 7 rfl<|sAdd (i:Int) 1<|jOI 2 rfl ?_
  exact ⟨(i+1,zt,azt,nzt,kzt,czt),od,alB,k2,om,(by rw [Nat.add_mul,Nat.one_mul,hE2,show j=Wn by omega]),hOzt⟩
 refine jCC 24 rfl<|loopF [3,5,6,16,19,20,166,167,27,171,172,28,175,176] (γ:=Nat×Int) (fun ⟨a,s2⟩ R=>⟨[(177,I (a:Int)),(29,I s2)],R,ncol-a,a<=ncol/\(s2=sepS p.v e0.policy e0.fill row col sh (r.x0+(j:Int)) (r.y0+(i:Int)) a)⟩) (0,0) ⟨k2,om,by rfl⟩ ?_
 rintro ⟨a,s2⟩ ρ _ ⟨h0,ha,hs2⟩
 have hsb:=sep_part (row:=row) (col:=col) (x:=r.x0+(j:Int)) (y:=r.y0+(i:Int)) hpo hev hcc (n:=a) om
 refine jCC 6 rfl<|cD ((a:Int)<(ncol:Int)) (fun y4=>?_) (fun y4=>?_)
 rotate_left
 ·refine jCC 5 rfl<|drawF h0 [4,6,7,8,10] (fb 1 3 3 1<|fn) [0,2,3,5,1,4,6,7,8,9,10] fun _ z4=>wV 4<|wL 0<|wO rfl<|cR call129 (p7_shift s2 sh2 z4.flat) fun _ l2=>nZ l2 [3]<|wO rfl<|cR call128 (p7_clamp (shiftV s2 sh2) out l2.flat) fun _ m2=>nZ m2 [3]<|wO rfl<|sBS m2 #[I (clampV (shiftV s2 sh2) out)] runUnderlying22 sizeOf3 zeroValue3 fun _ _ n2=>nZ n2 [4]<|wO rfl<|sApp (nb:=8) n2 hOzt 1 (RdT.blk (enc:=Go.E.encI) (sz:=1) (xs:=[(clampV (shiftV s2 sh2) out)]) fR 1 0 rfl rfl rfl om) underlying22 (i:=Tryz.t3) kr fR fun o2 q2 a5 _ b5 c5=>nA<|wV 1<|wO rfl<|tW c5 4 3 (.slice o2 (nzt+1) q2) sizeOf22 fun _ d5=>nA<|wN<|jXO 3 rfl<|sAdd (j:Int) 1<|jOI 2 rfl ?_
  exact ⟨(j+1,(zt++[(clampV (shiftV s2 sh2) out)]),o2,(nzt+1),q2,a5),od,alB,(d5.dropAt 0 rfl),om,(by rw [<-Nat.add_assoc,grid_succ om,<-hE2,hf];dsimp only;unfold sepX;rw [hn_col,<-show a=ncol by omega,<-hs2]),b5⟩
 refine jCO 7 rfl<|sIdx hcol (a:Int) runUnderlying22 sizeOf3 fun p0 _ _ c1 f5=>?_
 rw [Int.toNat_natCast] at c1
 have hwx:=areW_at hac c1
 refine sLp h0 (f5.up 8 rfl) 0 (I p0) (isAgg3 _)<|jOO 10 rfl<|sAdd (i:Int) (a:Int)<|sIdxO hOms ((i:Int)+(a:Int)) (((i:Int)+(a:Int))).toNat runUnderlying42 sizeOf22 fun f0 _ _ d1 g5 _=>?_
 have hxl:=rows_at hmr d1 om;have hxn:f0.l.n=Wn:=by have h:=congrArg List.length hxl;rw [midR,tab_len,(hDms f0 (List.mem_of_getElem? d1)).l.len] at h;exact h
 refine sLp h0 (g5.up 2 rfl) 0 (.slice f0.l.a f0.l.n f0.l.k) (isAgg22 _)<|pu1<|sIdx (hDms f0 (List.mem_of_getElem? d1)).l (j:Int) runUnderlying22 sizeOf3 fun g0 _ _ r2 h5=>?_
 rw [Int.toNat_natCast] at r2
 have hmv:g0=midV p.v e0.policy e0.fill row sh (r.x0+(j:Int)) (r.y0+(i:Int)+(a:Int)-(col.length:Int)/2):=by have h:=r2;rw [hxl,midR,tab_at om] at h;rw [<-Option.some.inj h];exact mid_eq om
 have hmb:=mid_bd (row:=row) (col:=col) (x:=r.x0+(j:Int)) (y:=r.y0+(i:Int)+(a:Int)-(col.length:Int)/2) hpo hev hcc;rw [<-hmv] at hmb;have hpm:=wmul_bd (v:=g0) (B:=68719476736) hwx hmb (by decide)
 exact sLp h0 (h5.up 1 rfl) 0 (I g0) (isAgg3 _)<|sMul p0 g0<|sAdd s2 (p0*g0)<|jOO 5 rfl<|sAdd (a:Int) 1<|jOI 2 rfl<|⟨(a+1,(s2+(p0*g0))),od,alB,h0,om,(by rw [sep_succ c1,<-hs2,<-hmv])⟩
def bytOK (s:StageV):Prop:=(1<=s.kind/\s.kind<=6)/\(¬s.kind=1\/((1<=s.kW/\s.kW<=9)/\1<=s.kH/\s.kH<=9))/\(¬s.kind=2\/(1<=(s.col.length:Int)/\(s.col.length:Int)<=9))/\(¬s.kind=4\/(1<=s.bins/\s.bins<=128))
theorem of_bytOK {q:StageV} {s t:Shape} (h:(ofV q s t).2=0):bytOK q:=by
 unfold ofV at h
 split at h
 ·rename_i hf
  have hk:1<=q.kind/\q.kind<=6:=by unfold fieldsP at hf;omega
  refine ⟨hk,?_⟩
  split at h
  ·split at h
   ·split at h
    ·rename_i h4
     unfold kernelV at h4
     clear h
     split at h4
     ·rename_i k
      unfold convCode at h4
      dsimp only at h4
      split at h4
      ·omega
      ·omega
     ·split at h4
      ·rename_i k
       unfold sepCode at h4
       dsimp only at h4
       split at h4
       ·omega
       ·omega
      ·split at h4
       ·omega
       ·split at h4
        ·split at h4
         ·omega
         ·simp at h4
        ·omega
    ·rename_i h4;exact absurd h h4
   ·simp at h
  ·simp at h
 ·simp at h
end Go.Proofs.YtghcddbhllkbmaaGreat

namespace Go.Proofs.YtghcddbhllkbmaaGreat
open Go Go.E Go.Proofs.Tryz
set_option linter.all false
set_option maxRecDepth 100000
set_option maxHeartbeats 2000000
variable {W w:World} {H:Chunk} {F:List Chunk}
def BefG (ni:Int) (D:List (List Int)) (out:List Int):Prop:=∀pre x post,out=pre++x::post->∀s,D[(x-ni).toNat]?=some s->∀y∈s,y<ni\/y∈pre
theorem BefG.nil {ni:Int} {D:List (List Int)}:BefG ni D []:=by
  intro pre x post h;cases pre<;>simp at h
theorem BefG.add {ni:Int} {D:List (List Int)} {out:List Int} {k:Nat} (h:BefG ni D out) (hc:canG ni D out k):BefG ni D (out++[ni+(k:Int)]):=by
 intro c0 x b0 e s hs y hy
 rcases List.append_eq_append_iff.1 e with ⟨z,h1,h2⟩|⟨z,h1,h2⟩
 ·cases z with
  |nil=>
   simp at h1 h2
   obtain ⟨s2,a0,_,h4⟩:=hc
   rw [<-h2.1,show (ni+(k:Int)-ni).toNat=k by omega,a0] at hs
   obtain rfl:=Option.some.inj hs
   rw [h1];exact h4 y hy
  |cons a z=>simp at h2
 ·cases z with
  |nil=>
   simp at h1 h2
   obtain ⟨s2,a0,_,h4⟩:=hc
   rw [h2.1,show (ni+(k:Int)-ni).toNat=k by omega,a0] at hs
   obtain rfl:=Option.some.inj hs
   rw [<-h1];exact h4 y hy
  |cons a z=>
   simp at h2
   obtain ⟨rfl,h3⟩:=h2
   exact h c0 x z h1 s hs y hy
def FitP (ni:Int) (ss:List StageV) (sh:List Shape) (x:Int):Prop:=shpStep ni ss x sh=(shpAt sh x,0)
structure LayG (L:Lay):Prop where
  ni:1<=L.ni/\L.ni+(L.ss.length:Int)<=16
  rng:∀x∈L.od,L.ni<=x/\x<L.ni+(L.ss.length:Int)
  every:∀x:Int,L.ni<=x->x<L.ni+(L.ss.length:Int)->x∈L.od
  nd:L.od.Nodup
  ln:L.od.length=L.ss.length
  bef:∀p x q,L.od=p++x::q->∀y∈srcs (L.st x),0<=y/\(y<L.ni\/y∈p)
  len:(L.sh.length:Int)=L.ni+(L.ss.length:Int)
  sz:∀x:Int,0<=x->x<L.ni+(L.ss.length:Int)->szP (shpAt L.sh x)
  fit:∀x∈L.od,FitP L.ni L.ss L.sh x
  tl:tileP L.tw L.th
section
variable {L:Lay} (g:LayG L)
include g
theorem LayG.byt {x:Int} (hx:x∈L.od):bytOK (L.st x):=by
  have h:=g.fit x hx
  unfold FitP shpStep at h
  exact of_bytOK (congrArg Prod.snd h)
end
def atV (p:PlaneV) (x y:Int):Int:=if x<0\/y<0\/p.w<=x\/p.h<=y then 0 else pixAt p x y
def leftV (own:PlaneV) (r:Rct):List Int:=(List.range (r.y1-r.y0).toNat).map fun (j:Nat)=>atV own (r.x0-1) (r.y0+(j:Int))
def topV (own:PlaneV) (r:Rct):List Int:=(List.range (r.x1-r.x0).toNat).map fun (i:Nat)=>atV own (r.x0+(i:Int)) (r.y0-1)
def sumT (p own:PlaneV) (r:Rct):PlaneV×Int:=if rIn r p.w p.h then itgT p r (leftV own r) (topV own r) (atV own (r.x0-1) (r.y0-1)) else (zPl,8)
def kerT (s:StageV) (p q:PlaneV) (r:Rct):PlaneV×Int:=
  if s.kind=1 then convT p s.edgePolicy s.edgeFill s.kW s.kH s.weights s.shift s.max_ r
  else if s.kind=2 then sepT p s.edgePolicy s.edgeFill s.row s.col s.shift s.shift2 s.max_ r
  else if s.kind=3 then resT p s.edgePolicy s.edgeFill s.x s.y s.shift s.shift2 s.max_ r
  else pwT p q (decide (twoP s)) s.ops s.max_ r
def tilT (s:StageV) (p q own:PlaneV) (r:Rct):PlaneV×Int:=if s.kind=5 then sumT p own r else kerT s p q r
def mrgN (l:List (List Int)):Int:=((l[0]?.getD []).length:Int)
def addL (a b:List Int):List Int:=List.zipWith (·+·) a b
def mrgV (l:List (List Int)):List Int:=l.foldl addL (List.replicate (mrgN l).toNat 0)
def mrgC (l:List (List Int)):Int:=
  if l.length=0\/4096<l.length then 5 else if (1<=mrgN l/\mrgN l<=128)/\l.all (fun z=>decide ((z.length:Int)=mrgN l))=true then
    (if l.all (fun z=>inM 4096 z)=true then (if (mrgV l).all (fun v=>decide (v<=4096))=true then 0 else 3) else 2) else 8
def cmpC (s:StageV) (part:Int) (p q own:PlaneV):Int:=
  if belongP s.kind part/\planeOK p=true/\(twoP s->planeOK q=true)/\(s.kind=5->planeOK own=true/\own.w=p.w/\own.h=p.h) then (ofV s (shpOf p) (shpOf q)).2 else 1
def cmpT (s:StageV) (part:Int) (r:Rct) (p q own:PlaneV) (parts:List (List Int)):List Int×Int:=
  if cmpC s part p q own=0 then
    (if part=1 then (partV p s.bins r,partC p s.bins r)
     else if part=2 then (if mrgC parts=0 then (if mrgN parts=s.bins then (mrgV parts,0) else ([],8)) else ([],mrgC parts))
     else if (tilT s p q own r).2=0 then ((tilT s p q own r).1.pix,0) else ([],(tilT s p q own r).2))
  else ([],cmpC s part p q own)
def inR2 (r:Rct) (x y:Int):Prop:=(r.x0<=x/\x<r.x1)/\r.y0<=y/\y<r.y1
instance (r:Rct) (x y:Int):Decidable (inR2 r x y):=by unfold inR2;infer_instance
def putL (own:PlaneV) (r:Rct) (pix:List Int):List Int:=gridN own.w (fun x y=>if inR2 r x y then pix.getD ((y-r.y0)*(r.x1-r.x0)+(x-r.x0)).toNat 0 else pixAt own x y) own.pix.length
def putC (own:PlaneV) (part:Int) (r:Rct) (pix:List Int):Int:=if planeOK own=true/\(part=0\/part=2) then (if rIn r own.w own.h/\(pix.length:Int)=(r.x1-r.x0)*(r.y1-r.y0) then (if inM own.max_ pix=true then 0 else 2) else 8) else 1
def putT (own:PlaneV) (part:Int) (r:Rct) (pix:List Int):PlaneV×Int:=okT (putC own part r pix) ⟨own.w,own.h,own.max_,putL own r pix⟩
theorem put_len (own:PlaneV) (r:Rct) (pix:List Int):(putL own r pix).length=own.pix.length:=grid_len _ _ _
theorem pixAt_grid {w h mx:Int} {f:Int->Int->Int} {n:Nat} (hn:(n:Int)=w*h) {x y:Int} (hx:0<=x/\x<w) (hy:0<=y/\y<h):pixAt ⟨w,h,mx,gridN w f n⟩ x y=f x y:=by
  have h1:=grid_ix (nx:=w) (i:=y) (j:=x) hx
  have h2:y*w+x<w*h:=(by have:=Int.mul_le_mul_of_nonneg_right (show y+1<=h by omega) (show 0<=w by omega);rw [Int.add_mul,Int.one_mul,Int.mul_comm h] at this;omega)
  have h0:0<=y*w:=Int.mul_nonneg hy.1 (by omega)
  unfold pixAt
  dsimp only
  rw [List.getD_eq_getElem?_getD,grid_at (by omega),show (((y*w+x).toNat:Nat):Int)=y*w+x by omega,h1.1,h1.2];rfl
theorem put_at {own:PlaneV} {r:Rct} {pix:List Int} (hl:(own.pix.length:Int)=own.w*own.h) {x y:Int} (hx:0<=x/\x<own.w) (hy:0<=y/\y<own.h):
    pixAt ⟨own.w,own.h,own.max_,putL own r pix⟩ x y=if inR2 r x y then pix.getD ((y-r.y0)*(r.x1-r.x0)+(x-r.x0)).toNat 0 else pixAt own x y:=pixAt_grid hl hx hy
def tixV (nx tw th x y:Int):Int:=y/th*nx+x/tw
theorem tix_in {w h tw th i x y:Int} (hf:fineP w h tw th) (hi:0<=i/\i<colsN w h tw th*rowsN w h tw th) (hx:0<=x/\x<w) (hy:0<=y/\y<h):inR2 (tileV w h tw th i) x y↔tixV (colsN w h tw th) tw th x y=i:=by
 have hb:=cols_bd hf
 have hix:=tile_ix hb.1.1 hi.1 hi.2
 have a0:=hf
 unfold fineP at a0
 have dx:=Int.emod_def x tw;have c0:=Int.emod_nonneg x (show tw≠0 by omega);have d0:=Int.emod_lt_of_pos x (show 0<tw by omega)
 have dy:=Int.emod_def y th;have e0:=Int.emod_nonneg y (show th≠0 by omega);have f0:=Int.emod_lt_of_pos y (show 0<th by omega)
 have b0:0<=x/tw/\x/tw<colsN w h tw th:=(by refine ⟨Int.ediv_nonneg hx.1 om,?_⟩;have g0:=ceil_ge (a:=w) (b:=tw) om om;have hc:colsN w h tw th=ceilV w tw:=(by unfold colsN;rw [if_pos hf]);rw [hc];exact Int.ediv_lt_of_lt_mul om om)
 have hq:=grid_ix (nx:=colsN w h tw th) (i:=y/th) (j:=x/tw) b0
 unfold tixV
 constructor
 · exact (by intro hin;unfold inR2 tileV at hin;dsimp only at hin;have e1:x/tw=i%colsN w h tw th:=(by have l1:i%colsN w h tw th<=x/tw:=(Int.le_ediv_iff_mul_le om).2 hin.1.1;have l2:x/tw<i%colsN w h tw th+1:=Int.ediv_lt_of_lt_mul om (by rw [Int.add_mul,Int.one_mul];omega);omega);have e2:y/th=i/colsN w h tw th:=(by have l1:i/colsN w h tw th<=y/th:=(Int.le_ediv_iff_mul_le om).2 hin.2.1;have l2:y/th<i/colsN w h tw th+1:=Int.ediv_lt_of_lt_mul om (by rw [Int.add_mul,Int.one_mul];omega);omega);rw [e1,e2];exact hix.2.2.2.symm)
 · exact (by intro e;have e1:i%colsN w h tw th=x/tw:=(by rw [<-e];exact hq.1);have e2:i/colsN w h tw th=y/th:=(by rw [<-e];exact hq.2);unfold inR2 tileV;dsimp only;rw [e1,e2,Int.mul_comm (x/tw),Int.mul_comm (y/th)];omega)
structure AsmP (W own:PlaneV) (nx tw th:Int) (i:Int):Prop where
  shp:shpOf own=shpOf W
  len:(own.pix.length:Int)=own.w*own.h
  pix:∀x y,0<=x/\x<W.w->0<=y/\y<W.h->pixAt own x y=if tixV nx tw th x y<i then pixAt W x y else 0
section
variable {W own:PlaneV} {tw th i:Int} (hf:fineP W.w W.h tw th) (h:AsmP W own (colsN W.w W.h tw th) tw th i)
include hf h
theorem AsmP.put (hi:0<=i/\i<colsN W.w W.h tw th*rowsN W.w W.h tw th) {pix:List Int}
  (hp:∀x y,inR2 (tileV W.w W.h tw th i) x y->pix.getD ((y-(tileV W.w W.h tw th i).y0)*((tileV W.w W.h tw th i).x1-(tileV W.w W.h tw th i).x0)+(x-(tileV W.w W.h tw th i).x0)).toNat 0=pixAt W x y):
  AsmP W ⟨own.w,own.h,own.max_,putL own (tileV W.w W.h tw th i) pix⟩ (colsN W.w W.h tw th) tw th (i+1):=by
 have e1:own.w=W.w:=congrArg Shape.w h.shp
 have e2:own.h=W.h:=congrArg Shape.h h.shp
 refine ⟨h.shp,by dsimp only;rw [put_len];exact h.len,fun x y hx hy=>?_⟩
 rw [put_at h.len (by rw [e1];exact hx) (by rw [e2];exact hy)]
 have ht:=tix_in hf hi hx hy
 by_cases a0:inR2 (tileV W.w W.h tw th i) x y
 ·rw [if_pos a0,hp x y a0,if_pos (by have:=ht.1 a0;omega)]
 ·rw [if_neg a0,h.pix x y hx hy]
  have b0:¬tixV (colsN W.w W.h tw th) tw th x y=i:=fun e=>a0 (ht.2 e)
  by_cases hl:tixV (colsN W.w W.h tw th) tw th x y<i
  ·rw [if_pos hl,if_pos om]
  ·rw [if_neg hl,if_neg om]
end
theorem AsmP.ok {W own:PlaneV} {nx tw th i:Int} (h:AsmP W own nx tw th i) (hW:planeOK W=true):planeOK own=true:=by
 have e1:own.w=W.w:=congrArg Shape.w h.shp
 have e2:own.h=W.h:=congrArg Shape.h h.shp
 have e3:own.max_=W.max_:=congrArg Shape.max_ h.shp
 have hs:=(plane_sz hW).1
 have b0:=hs;unfold sizeP at b0
 refine plane_mk (by rw [e1,e2,e3];exact hs) h.len (fun z hz=>?_)
 obtain ⟨n,hn⟩:=List.getElem?_of_mem hz
 have hl:n<own.pix.length:=(List.getElem?_eq_some_iff.1 hn).1
 have a0:=h.len
 rw [e1,e2] at a0
 have hix:=tile_ix (nx:=W.w) (ny:=W.h) (i:=(n:Int)) om om om
 have hp:=h.pix ((n:Int)%W.w) ((n:Int)/W.w) hix.1 ⟨hix.2.1,hix.2.2.1⟩
 have c0:pixAt own ((n:Int)%W.w) ((n:Int)/W.w)=z:=(by unfold pixAt;rw [e1,show ((n:Int)/W.w*W.w+(n:Int)%W.w).toNat=n by omega,List.getD_eq_getElem?_getD,hn];rfl)
 rw [c0] at hp
 rw [e3,hp]
 split
 ·exact pixAt_bd hW _ _
 ·omega
theorem ediv_eq {a b c:Int} (hb:0<b) (h1:c*b<=a) (h2:a<c*b+b):a/b=c:=by
  have l1:c<=a/b:=(Int.le_ediv_iff_mul_le hb).2 h1
  have l2:a/b<c+1:=Int.ediv_lt_of_lt_mul hb (by rw [Int.add_mul,Int.one_mul];omega)
  omega
def AgrP (s:StageV) (p p':PlaneV) (r:Rct):Prop:=∀c∈colsV s p.w r.x0 r.x1,∀d∈rowsV s p.h r.y0 r.y1,pixAt p c d=pixAt p' c d
section
variable {s:StageV} {p p':PlaneV} {r:Rct} (hw:p'.w=p.w) (hh:p'.h=p.h) (ha:accV s) (hx:lenP p.w r.x0 r.x1) (hy:lenP p.h r.y0 r.y1) (hg:AgrP s p p' r)
include hw hh ha hx hy hg
end
end Go.Proofs.YtghcddbhllkbmaaGreat

namespace Go.Proofs.YtghcddbhllkbmaaGreat
open Go Go.E Go.Proofs.Tryz
set_option linter.all false
set_option maxRecDepth 100000
set_option maxHeartbeats 2000000
variable {W w:World} {H:Chunk} {F:List Chunk}
section
variable {P:Program} {n:Nat} {ρ:Env} {w:World} {ops:Array Oper} {rest:List Oper} {N:Env->World->Prop} {o:Oper}
theorem sQuoN (a b:Int) {t u:TypeId} {x y:Operand} (h:OpsE P n ops rest N (put ρ o.dst (.int .i64 (a.tdiv b))) w) (hb:¬b=0:=by omega) (hq:-9223372036854775808<=a.tdiv b/\a.tdiv b<=9223372036854775807:=by omega)
    (ho:o.op= .binOp .quo t x y u:=by rfl) (hg:o.guard=none:=by rfl) (hd:dstOK n o.dst=true:=by rfl) (hx:ev ρ x= .int .i64 a:=by kernel_rfl) (hy:ev ρ y= .int .i64 b:=by kernel_rfl):
    OpsE P n ops (o::rest) N ρ w:=stepY _ hg hd (Y_arith ho hx hy (by simp [binOp,Op.intDiv,hb,wrap_i64 hq])) h
end
theorem rn_push {a b z:Int} {o:POp} {l:List POp} {st:List Int} (hc:0<=o.code/\o.code<=2) (hz:appV o 0 0 a b=z) (hz2:accP z):rnGo a b (o::l) st=rnGo a b l (st++[z]):=by
  have t0:takesV o.code=0:=by unfold takesV;rw [if_pos (by omega)]
  have h1:stX o st=0:=by unfold stX;rw [if_neg (by omega)]
  have h2:stY o st=0:=by unfold stY;rw [if_neg (by omega)]
  rw [rnGo,h1,h2,if_pos ⟨fun h=>by omega,by rw [hz];exact hz2⟩,hz,t0]
  congr 1
  rw [show st.length-(0:Int).toNat=st.length from rfl,List.take_length]
theorem app_ab {o:POp} {x y a b c d:Int} (h:3<=o.code):appV o x y a b=appV o x y c d:=by
  have h0:¬o.code=0:=(by omega);have h1:¬o.code=1:=(by omega);have h2:¬o.code=2:=(by omega)
  simp only [appV,h0,h1,h2,if_false]
theorem app_y {o:POp} {x y z a b:Int} (h:10<=o.code):appV o x y a b=appV o x z a b:=by
  have h0:¬o.code=0:=(by omega);have h1:¬o.code=1:=(by omega);have h2:¬o.code=2:=(by omega);have h3:¬o.code=3:=(by omega);have h4:¬o.code=4:=(by omega);have h5:¬o.code=5:=(by omega);have h6:¬o.code=6:=(by omega);have h7:¬o.code=7:=(by omega);have h8:¬o.code=8:=(by omega);have h9:¬o.code=9:=(by omega)
  simp only [appV,h0,h1,h2,h3,h4,h5,h6,h7,h8,h9,if_false]
theorem rn_xy {o:POp} {st:List Int} {x y a b:Int} (hc:3<=o.code/\o.code<=11) (hx:st[st.length-(takesV o.code).toNat]?=some x) (hy:st[st.length-1]?=some y):
  stX o st=x/\appV o x (stY o st) a b=appV o x y 0 0/\(appOK o x (stY o st) a b↔appOK o x y 0 0):=by
 have h1:stX o st=x:=by unfold stX;rw [if_pos (by unfold takesV;split;omega;split<;>omega),List.getD_eq_getElem?_getD,hx];rfl
 by_cases h:10<=o.code
 · exact (by have h2:appV o x (stY o st) a b=appV o x y 0 0:=(app_ab om).trans (app_y h);exact ⟨h1,h2,by unfold appOK;rw [h2];exact and_congr_left (fun _=>⟨fun _ h5=>by omega,fun _ h5=>by omega⟩)⟩)
 · exact (by have e:stY o st=y:=(by unfold stY;rw [if_pos (by unfold takesV;rw [if_neg om,if_neg om]),List.getD_eq_getElem?_getD,hy];rfl);have h2:appV o x (stY o st) a b=appV o x y 0 0:=(by rw [e];exact app_ab om);exact ⟨h1,h2,by unfold appOK;rw [h2,e]⟩)
theorem rn_op {a b:Int} {o:POp} {l:List POp} {st m:List Int} {x y:Int} (hc:3<=o.code/\o.code<=11) (hx:st[st.length-(takesV o.code).toNat]?=some x) (hy:st[st.length-1]?=some y) (hok:appOK o x y 0 0) (hm:m=st.take (st.length-(takesV o.code).toNat)):
    rnGo a b (o::l) st=rnGo a b l (m++[appV o x y 0 0]):=by
  obtain ⟨h1,h2,h3⟩:=rn_xy (a:=a) (b:=b) hc hx hy
  subst hm
  rw [rnGo,h1,h2,if_pos (h3.2 hok)]
theorem rn_no {a b:Int} {o:POp} {l:List POp} {st:List Int} {x y:Int} (hc:3<=o.code/\o.code<=11) (hx:st[st.length-(takesV o.code).toNat]?=some x) (hy:st[st.length-1]?=some y) (hok:¬appOK o x y 0 0):rnGo a b (o::l) st=none:=by
  obtain ⟨h1,h2,h3⟩:=rn_xy (a:=a) (b:=b) hc hx hy
  rw [rnGo,h1,if_neg (fun k=>hok (h3.1 k))]
theorem app_acc {o:POp} {x y:Int} (h:appOK o x y 0 0):accP (appV o x y 0 0):=h.2
theorem fdiv_t {x y:Int} (hy:¬y=0):x.fdiv y=if ¬x.tmod y=0/\¬(x<0↔y<0) then x.tdiv y-1 else x.tdiv y:=by
 have h1:=Int.mul_tdiv_add_tmod x y
 have h2:=Int.mul_fdiv_add_fmod x y
 have hr:(x.tmod y).natAbs<y.natAbs:=by rw [Int.natAbs_tmod];exact Nat.mod_lt _ om
 have hs:(0<=x->0<=x.tmod y)/\(x<=0->x.tmod y<=0):=⟨fun h=>Int.tmod_nonneg y h,fun h=>by have:=Int.tmod_nonneg y (show 0<=-x by omega);rw [Int.neg_tmod] at this;omega⟩
 have a0:∀q r q2 r2:Int,y*q+r=y*q2+r2->(r-r2).natAbs<y.natAbs->q=q2:=by
  intro q r q2 r2 h h3
  by_cases he:q=q2
  ·exact he
  · exact (by exfalso;have h4:y*(q2-q)=r-r2:=(by rw [Int.mul_sub];omega);have h5:y.natAbs*(q2-q).natAbs=(r-r2).natAbs:=(by rw [<-h4,Int.natAbs_mul]);have h6:=Nat.mul_le_mul_left y.natAbs (show 1<=(q2-q).natAbs by omega);omega)
 rcases Int.lt_or_lt_of_ne hy with h0|h0
 ·have f1:y<x.fmod y/\x.fmod y<=0:=(by have h4:=Int.fmod_nonneg_of_pos (-x) (show 0< -y by omega);have h5:=Int.fmod_lt_of_pos (-x) (show 0< -y by omega);rw [Int.neg_fmod_neg] at h4 h5;omega)
  split
  · exact (by rename_i h;refine (a0 (x.tdiv y-1) (x.tmod y+y) (x.fdiv y) (x.fmod y) (by rw [Int.mul_sub,Int.mul_one];omega) om).symm)
  · exact (by rename_i h;refine (a0 (x.tdiv y) (x.tmod y) (x.fdiv y) (x.fmod y) om om).symm)
 ·have f1:0<=x.fmod y/\x.fmod y<y:=⟨Int.fmod_nonneg_of_pos _ h0,Int.fmod_lt_of_pos _ h0⟩
  split
  · exact (by rename_i h;refine (a0 (x.tdiv y-1) (x.tmod y+y) (x.fdiv y) (x.fmod y) (by rw [Int.mul_sub,Int.mul_one];omega) om).symm)
  · exact (by rename_i h;refine (a0 (x.tdiv y) (x.tmod y) (x.fdiv y) (x.fmod y) om om).symm)
def pwC (p q:PlaneV) (two:Bool) (l:List POp) (out:Int) (r:Rct):Int:=if planeOK p=true/\(two=true->planeOK q=true) then (if pwCode l two p.max_ q.max_ out=0 then (if (two=true->p.w=q.w/\p.h=q.h)/\rIn r p.w p.h then 0 else 8) else pwCode l two p.max_ q.max_ out) else 1
theorem pwT_eq {p q:PlaneV} {two:Bool} {l:List POp} {out:Int} {r:Rct}:pwT p q two l out r=okT (pwC p q two l out r) (mkPl r out (pwX p q two l out)):=rfl
section
variable {p q:PlaneV} {two:Bool} {l:List POp} {out:Int} {r:Rct}
theorem pwC_1 (h:¬(planeOK p=true/\(two=true->planeOK q=true))):pwC p q two l out r=1:=if_neg h
theorem pwC_c {c:Int} (h:planeOK p=true/\(two=true->planeOK q=true)) (hc:pwCode l two p.max_ q.max_ out=c) (hn:¬c=0):pwC p q two l out r=c:=by unfold pwC;rw [if_pos h,if_neg (by omega),hc]
theorem pwC_8 (h:planeOK p=true/\(two=true->planeOK q=true)) (hc:pwCode l two p.max_ q.max_ out=0) (hr:¬((two=true->p.w=q.w/\p.h=q.h)/\rIn r p.w p.h)):pwC p q two l out r=8:=by unfold pwC;rw [if_pos h,if_pos hc,if_neg hr]
theorem pwC_0 (h:planeOK p=true/\(two=true->planeOK q=true)) (hc:pwCode l two p.max_ q.max_ out=0) (hr:(two=true->p.w=q.w/\p.h=q.h)/\rIn r p.w p.h):pwC p q two l out r=0:=by unfold pwC;rw [if_pos h,if_pos hc,if_pos hr]
end
theorem p14_quotient (x:Int) (y:Int) (hx:-17592186044416<=x/\x<=17592186044416) (hy:-17592186044416<=y/\y<=17592186044416) (hS:Sat W w (H::F)):
  Ro prog 194 #[I x,I y] (I (floorV x y)) W w (H::F):=by
 refine callsK 25 func194 rfl<|jCC 12 rfl<|cE y 0 (fun b0=>jCR 7 rfl<|retT [I 0]<|⟨congrArg (fun z=>Ending.returned (I z)) (by unfold floorV;rw [if_pos om]),hS⟩) fun b0=>jCC 3 rfl ?_
 have e0:-17592186044416<=x.tdiv y/\x.tdiv y<=17592186044416:=by have h:=Int.natAbs_tdiv_le_natAbs x y;omega
 refine jCO 3 rfl<|sQuoN x y<|jOO 8 rfl<|sRem x y<|pu2<|sN 15 (x.tmod y) 0 (fun c0=>jOR 18 rfl<|retT [I (x.tdiv y)]<|⟨congrArg (fun z=>Ending.returned (I z)) (by unfold floorV;rw [if_neg om,fdiv_t om,if_neg om]),hS⟩) fun c0=>jOC 8 rfl ?_
 rcases bool_em (decide (x<0)) (decide (y<0)) with a0|a0
 ·exact cF _ (congrArg Bool.not (show ((decide (x<0))==(decide (y<0)))=true from by simpa using a0))<|jCR 9 rfl<|retT [I (x.tdiv y)]<|(by have d0:=a0;rw [decide_eq_decide] at d0;exact ⟨congrArg (fun z=>Ending.returned (I z)) (by unfold floorV;rw [if_neg om,fdiv_t om,if_neg om]),hS⟩)
 exact cT _ (congrArg Bool.not (show ((decide (x<0))==(decide (y<0)))=false from by simpa using a0))<|jCO 2 rfl<|sSub (x.tdiv y) 1<|jOR 10 rfl<|retT [I ((x.tdiv y)-1)]<|(by have d0:=a0;rw [decide_eq_decide] at d0;exact ⟨congrArg (fun z=>Ending.returned (I z)) (by unfold floorV;rw [if_neg om,fdiv_t om,if_pos ⟨om,om⟩]),hS⟩)
theorem p14_value (o:POp) (x:Int) (y:Int) (hx:-17592186044416<=x/\x<=17592186044416) (hy:-17592186044416<=y/\y<=17592186044416) (hc:3<=o.code/\o.code<=11) (ho:argP o) (hS:Sat W w (H::F)):
  Ro prog 171 #[.agg #[I o.code,I o.arg],I x,I y] (.tuple #[I (appV o x y 0 0), .bool (decide (appOK o x y 0 0))]) W w (H::F):=by
 refine callsK 67 func171 rfl<|jCO 2 rfl<|sBx hS [I o.code,I o.arg] fun _ _ a0=>gOC a0 24 [0] rfl<|cE o.code 3 (fun c0=>jCO 3 rfl<|sAdd x y<|jOO 10 rfl<|gY<|cS (p14_within (x+y) a0.flat) fun _ d0=>jOR 6 rfl<|retT [I (x+y), .bool (decide ((-17592186044416:Int)<=(x+y)/\(x+y)<=17592186044416))]<|(by have e0:=(d0.dropAt 0 rfl);have hv:appV o x y 0 0=(x+y):=(by unfold appV;rw [if_neg om,if_neg om,if_neg om,if_pos om]);have A0:decide (appOK o x y 0 0)=decide ((-17592186044416:Int)<=(x+y)/\(x+y)<=17592186044416):=(by rw [Bool.eq_iff_iff,decide_eq_true_eq];unfold appOK accP;rw [hv];simp only [decide_eq_true_eq];exact ⟨fun h=>h.2,fun h=>⟨fun h5=>by omega,h⟩⟩);exact ⟨by rw [A0,hv];rfl,e0⟩)) fun c0=>jCC 6 rfl<|cE o.code 4 (fun f0=>jCO 3 rfl<|sSub x y<|jOO 10 rfl<|gY<|cS (p14_within (x-y) a0.flat) fun _ g0=>jOR 6 rfl<|retT [I (x-y), .bool (decide ((-17592186044416:Int)<=(x-y)/\(x-y)<=17592186044416))]<|(by have h0:=(g0.dropAt 0 rfl);have hv:appV o x y 0 0=(x-y):=(by unfold appV;rw [if_neg om,if_neg om,if_neg om,if_neg om,if_pos om]);have A0:decide (appOK o x y 0 0)=decide ((-17592186044416:Int)<=(x-y)/\(x-y)<=17592186044416):=(by rw [Bool.eq_iff_iff,decide_eq_true_eq];unfold appOK accP;rw [hv];simp only [decide_eq_true_eq];exact ⟨fun h=>h.2,fun h=>⟨fun h5=>by omega,h⟩⟩);exact ⟨by rw [A0,hv];rfl,h0⟩)) fun f0=>?_
 refine jCC 6 rfl<|cE o.code 5 (fun i0=>jCO 3 rfl<|cS (p14_product x y (od) (od) a0.flat) fun _ b0=>jOO 13 rfl<|SB 63 (timesOK x y) (fun j0=>jOR 8 rfl<|retT [I (timesV x y), .bool false]<|(by have k0:=(b0.dropAt 0 rfl);have hv:appV o x y 0 0=(timesV x y):=(by unfold appV;rw [if_neg om,if_neg om,if_neg om,if_neg om,if_neg om,if_pos om]);have A0:decide (appOK o x y 0 0)=false:=decide_eq_false (fun h=>by have h1:=h.1 om;simp_all);exact ⟨by rw [A0,hv];rfl,k0⟩)) fun j0=>pu1<|gY<|cS (p14_within (timesV x y) b0.flat) fun _ l0=>jOR 6 rfl<|retT [I (timesV x y), .bool (decide ((-17592186044416:Int)<=(timesV x y)/\(timesV x y)<=17592186044416))]<|(by have m0:=(l0.dropAt 0 rfl);have hv:appV o x y 0 0=(timesV x y):=(by unfold appV;rw [if_neg om,if_neg om,if_neg om,if_neg om,if_neg om,if_pos om]);have A0:decide (appOK o x y 0 0)=decide ((-17592186044416:Int)<=(timesV x y)/\(timesV x y)<=17592186044416):=(by rw [Bool.eq_iff_iff,decide_eq_true_eq];unfold appOK accP;rw [hv];simp only [decide_eq_true_eq];exact ⟨fun h=>h.2,fun h=>⟨fun _=>by simp_all,h⟩⟩);exact ⟨by rw [A0,hv];rfl,m0⟩)) fun i0=>?_
 refine jCC 6 rfl<|cE o.code 6 (fun n0=>jCO 3 rfl<|stepY (I (min x y)) rfl rfl (Y_min2 x y rfl rfl kr kr)<|jOO 10 rfl<|gY<|cS (p14_within (min x y) a0.flat) fun _ o0=>jOR 6 rfl<|retT [I (min x y), .bool (decide ((-17592186044416:Int)<=(min x y)/\(min x y)<=17592186044416))]<|(by have p0:=(o0.dropAt 0 rfl);have hv:appV o x y 0 0=(min x y):=(by unfold appV;rw [if_neg om,if_neg om,if_neg om,if_neg om,if_neg om,if_neg om,if_pos om]);have A0:decide (appOK o x y 0 0)=decide ((-17592186044416:Int)<=(min x y)/\(min x y)<=17592186044416):=(by rw [Bool.eq_iff_iff,decide_eq_true_eq];unfold appOK accP;rw [hv];simp only [decide_eq_true_eq];exact ⟨fun h=>h.2,fun h=>⟨fun h5=>by omega,h⟩⟩);exact ⟨by rw [A0,hv];rfl,p0⟩)) fun n0=>jCC 6 rfl<|cE o.code 7 (fun q0=>jCO 3 rfl<|stepY (I (max x y)) rfl rfl (Y_max2 x y rfl rfl kr kr)<|jOO 10 rfl<|gY<|cS (p14_within (max x y) a0.flat) fun _ r0=>jOR 6 rfl<|retT [I (max x y), .bool (decide ((-17592186044416:Int)<=(max x y)/\(max x y)<=17592186044416))]<|(by have s0:=(r0.dropAt 0 rfl);have hv:appV o x y 0 0=(max x y):=(by unfold appV;rw [if_neg om,if_neg om,if_neg om,if_neg om,if_neg om,if_neg om,if_neg om,if_pos om]);have A0:decide (appOK o x y 0 0)=decide ((-17592186044416:Int)<=(max x y)/\(max x y)<=17592186044416):=(by rw [Bool.eq_iff_iff,decide_eq_true_eq];unfold appOK accP;rw [hv];simp only [decide_eq_true_eq];exact ⟨fun h=>h.2,fun h=>⟨fun h5=>by omega,h⟩⟩);exact ⟨by rw [A0,hv];rfl,s0⟩)) fun q0=>?_
 refine jCC 6 rfl<|cE o.code 8 (fun t0=>jCO 3 rfl<|sSub x y<|cS (p14_abs (x-y) (od) a0.flat) fun _ u0=>jOO 10 rfl<|gY<|cS (p14_within (((x-y).natAbs:Nat):Int) u0.flat) fun _ v0=>jOR 6 rfl<|retT [I (((x-y).natAbs:Nat):Int), .bool (decide ((-17592186044416:Int)<=(((x-y).natAbs:Nat):Int)/\(((x-y).natAbs:Nat):Int)<=17592186044416))]<|(by have w0:=(v0.dropAt 0 rfl);have hv:appV o x y 0 0=(((x-y).natAbs:Nat):Int):=(by unfold appV;rw [if_neg om,if_neg om,if_neg om,if_neg om,if_neg om,if_neg om,if_neg om,if_neg om,if_pos om]);have A0:decide (appOK o x y 0 0)=decide ((-17592186044416:Int)<=(((x-y).natAbs:Nat):Int)/\(((x-y).natAbs:Nat):Int)<=17592186044416):=(by rw [Bool.eq_iff_iff,decide_eq_true_eq];unfold appOK accP;rw [hv];simp only [decide_eq_true_eq];exact ⟨fun h=>h.2,fun h=>⟨fun h5=>by omega,h⟩⟩);exact ⟨by rw [A0,hv];rfl,w0⟩)) fun t0=>?_
 refine jCC 6 rfl<|cE o.code 9 (fun x0=>jCO 3 rfl<|cS (p14_quotient x y (od) (od) a0.flat) fun _ y0=>jOO 10 rfl<|gY<|cS (p14_within (floorV x y) y0.flat) fun _ z0=>jOR 6 rfl<|retT [I (floorV x y), .bool (decide ((-17592186044416:Int)<=(floorV x y)/\(floorV x y)<=17592186044416))]<|(by have a1:=(z0.dropAt 0 rfl);have hv:appV o x y 0 0=(floorV x y):=(by unfold appV;rw [if_neg om,if_neg om,if_neg om,if_neg om,if_neg om,if_neg om,if_neg om,if_neg om,if_neg om,if_pos om]);have A0:decide (appOK o x y 0 0)=decide ((-17592186044416:Int)<=(floorV x y)/\(floorV x y)<=17592186044416):=(by rw [Bool.eq_iff_iff,decide_eq_true_eq];unfold appOK accP;rw [hv];simp only [decide_eq_true_eq];exact ⟨fun h=>h.2,fun h=>⟨fun h5=>by omega,h⟩⟩);exact ⟨by rw [A0,hv];rfl,a1⟩)) fun x0=>jCC 6 rfl<|cE o.code 10 (fun b1=>gCO a0 4 [0] rfl<|cS (p7_shift x o.arg a0.flat) fun _ c1=>jOO 10 rfl<|gY<|cS (p14_within (shiftV x o.arg) c1.flat) fun _ d1=>jOR 6 rfl<|retT [I (shiftV x o.arg), .bool (decide ((-17592186044416:Int)<=(shiftV x o.arg)/\(shiftV x o.arg)<=17592186044416))]<|(by have e1:=(d1.dropAt 0 rfl);have hv:appV o x y 0 0=(shiftV x o.arg):=(by unfold appV;rw [if_neg om,if_neg om,if_neg om,if_neg om,if_neg om,if_neg om,if_neg om,if_neg om,if_neg om,if_neg om,if_pos om]);have A0:decide (appOK o x y 0 0)=decide ((-17592186044416:Int)<=(shiftV x o.arg)/\(shiftV x o.arg)<=17592186044416):=(by rw [Bool.eq_iff_iff,decide_eq_true_eq];unfold appOK accP;rw [hv];simp only [decide_eq_true_eq];exact ⟨fun h=>h.2,fun h=>⟨fun h5=>by omega,h⟩⟩);exact ⟨by rw [A0,hv];rfl,e1⟩)) fun b1=>jCC 6 rfl ?_
 have f1:(o.code:Int)=11:=om
 refine cT _ (beq_iff_eq.2 f1)<|jCO 2 rfl<|cS (p14_abs x (od) a0.flat) fun _ g1=>jOO 10 rfl<|gY<|cS (p14_within (x.natAbs:Int) g1.flat) fun _ i1=>jOR 6 rfl<|retT [I (x.natAbs:Int), .bool (decide ((-17592186044416:Int)<=(x.natAbs:Int)/\(x.natAbs:Int)<=17592186044416))] ?_
 have j1:=(i1.dropAt 0 rfl)
 have hv:appV o x y 0 0=(x.natAbs:Int):=(by unfold appV;rw [if_neg om,if_neg om,if_neg om,if_neg om,if_neg om,if_neg om,if_neg om,if_neg om,if_neg om,if_neg om,if_neg om])
 have A0:decide (appOK o x y 0 0)=decide ((-17592186044416:Int)<=(x.natAbs:Int)/\(x.natAbs:Int)<=17592186044416):=by rw [Bool.eq_iff_iff,decide_eq_true_eq];unfold appOK accP;rw [hv];simp only [decide_eq_true_eq];exact ⟨fun h=>h.2,fun h=>⟨fun h5=>by omega,h⟩⟩
 exact ⟨by rw [A0,hv];rfl,j1⟩
theorem p14_run (al:Option Addr) (nl kl:Nat) (l:List POp) (a:Int) (b:Int) (hl:RdT encPOp 2 [H] al nl kl l) (two:Bool) (hlc:opsCode l two=0) (ha:0<=a/\a<=4294967296) (hb:0<=b/\b<=4294967296) (hS:Sat W w (H::F)):
  Ro prog 138 #[.slice al nl kl,I a,I b] (.tuple #[I ((runV l a b).1),I ((runV l a b).2)]) W w (H::F):=by
 have O0:=hl.ll
 obtain ⟨V0,W0,S0⟩:=opsCode_go hlc
 refine callsK 81 func138 rfl<|jCO 8 rfl<|sMake0 (kl:= .i64) (kc:= .i64) (enc:=Go.E.encI) (sz:=1) (nb:=8) hS 32 32 (rfl:(32:Int)=((32:Nat):Int)) underlying22 (i:=Tryz.t3) kr fR fun l0 m0 _ n0 o0=>jOC 12 rfl<|loopF [1,2,17,18] (γ:=Nat×(List Int)×SO) (fun ⟨i,zs,E0,A0,H0,I0⟩ R=>⟨[(19,I (i:Int)),(8, .slice E0 A0 H0)],I0::R,nl-i,i<=nl/\(rnGo a b l []=rnGo a b (l.drop i) zs)/\(opsGo two (l.drop i) (zs.length:Int)=0)/\(∀z∈zs,-17592186044416<=z/\z<=17592186044416)/\(zs.length<=i)/\OwnT Go.E.encI 3 1 E0 A0 H0 zs I0⟩) (0,[],(At l0 0),0,32,m0) ⟨o0,om,by rfl,(opsCode_go hlc).1,(by intro z hz;cases hz),by simp,n0⟩ ?_
 rintro ⟨i,zs,E0,A0,H0,I0⟩ ρ _ ⟨f0,hi,hG,hH,D0,Y0,B0⟩
 have M0:=B0.ll
 refine jCC 6 rfl<|CD ((i:Int)<(nl:Int)) (fun p0=>jCC 6 rfl<|(by have hh:opsGo two (l.drop i) zs.length=0:=hH;rw [List.drop_of_length_le om] at hh;have X0:zs.length=1:=(by unfold opsGo at hh;split at hh<;>omega);refine jCO 2 rfl<|sIO B0 0 0 fun g0 _ _ q0 r0 _=>sMp f0 (r0.up 0 rfl) 0 (I g0)<|jOR 5 rfl<|retT [I g0,I 0] ?_;have s0:=(f0.dropAt 0 rfl);have K0:rnGo a b l []=some zs:=(by rw [hG,List.drop_of_length_le om];rfl);have T0:zs[0]?=some g0:=q0;exact ⟨by rw [show runV l a b=(g0,0) from by unfold runV;rw [K0];dsimp only;rw [List.getD_eq_getElem?_getD,T0];rfl];rfl,s0⟩)) fun p0=>?_
 refine jCO 6 rfl<|sIN hl i fun a0 _ _ b0 t0=>?_
 obtain ⟨P0,C0,F0⟩:=opsGo_zero (by rw [<-drop_at b0];exact hH)
 have U0:=ptakes_bd a0.code;have G0:=takesV_bd a0.code;have Q0:(0<=a0.code/\a0.code<=11)/\takesV a0.code<=zs.length:=(by unfold opBad at P0;omega);have L0:3<=a0.code->1<=takesV a0.code:=(by intro h;unfold takesV;rw [if_neg om];split<;>omega)
 refine sMA f0 (t0.up 1 rfl) 0 [I a0.code,I a0.arg]<|sAlloc f0 zeroValue75 fun _ _ u0=>sTk u0 0 [I a0.code,I a0.arg] fun _ c0=>gOC c0 16 [0] rfl<|cE a0.code 0 (fun v0=>?_) (fun v0=>?_)
 ·refine jCO 4 rfl<|sBK c0 #[I a] 3 fun _ _ w0=>sApp (nb:=8) w0 B0 2 (RdT.blk (enc:=Go.E.encI) (sz:=1) (xs:=[a]) fR 1 0 rfl rfl rfl om) underlying22 (i:=Tryz.t3) kr fR fun x0 y0 z0 _ a1 b1=>jOO 9 rfl<|sAdd (i:Int) 1<|jOI 2 rfl ?_
  exact ⟨(i+1,(zs++[a]),x0,(A0+1),y0,z0),od,alB,(b1.drops [0,0]),om,by rw [hG,drop_at b0];exact rn_push om (by unfold appV;rw [if_pos om]) (by unfold accP;unfold argP at C0;omega),by rw [List.length_append];simp only [List.length_cons,List.length_nil];rw [show (((zs.length+(0+1):Nat)):Int)=(zs.length:Int)+(1-takesV a0.code) from by rw [show takesV a0.code=0 from by unfold takesV;rw [if_pos om]];omega];exact F0,(by
    intro z hz
    rcases List.mem_append.1 hz with h|h
    ·exact D0 z h
    ·simp only [List.mem_singleton] at h;subst h;unfold argP at C0;omega),by simp;omega,a1⟩
 refine jCC 6 rfl<|cE a0.code 1 (fun d1=>?_) (fun d1=>?_)
 ·refine jCO 4 rfl<|sBK c0 #[I b] 3 fun _ _ e1=>sApp (nb:=8) e1 B0 2 (RdT.blk (enc:=Go.E.encI) (sz:=1) (xs:=[b]) fR 1 0 rfl rfl rfl om) underlying22 (i:=Tryz.t3) kr fR fun f1 g1 h1 _ i1 j1=>jOO 9 rfl<|sAdd (i:Int) 1<|jOI 2 rfl ?_
  exact ⟨(i+1,(zs++[b]),f1,(A0+1),g1,h1),od,alB,(j1.drops [0,0]),om,by rw [hG,drop_at b0];exact rn_push om (by unfold appV;rw [if_neg om,if_pos om]) (by unfold accP;unfold argP at C0;omega),by rw [List.length_append];simp only [List.length_cons,List.length_nil];rw [show (((zs.length+(0+1):Nat)):Int)=(zs.length:Int)+(1-takesV a0.code) from by rw [show takesV a0.code=0 from by unfold takesV;rw [if_pos om]];omega];exact F0,(by
    intro z hz
    rcases List.mem_append.1 hz with h|h
    ·exact D0 z h
    ·simp only [List.mem_singleton] at h;subst h;unfold argP at C0;omega),by simp;omega,i1⟩
 refine jCC 6 rfl<|cE a0.code 2 (fun l1=>?_) (fun l1=>?_)
 ·refine gCO c0 5 [0] rfl<|sBK c0 #[I a0.arg] 3 fun _ _ m1=>sApp (nb:=8) m1 B0 2 (RdT.blk (enc:=Go.E.encI) (sz:=1) (xs:=[a0.arg]) fR 1 0 rfl rfl rfl om) underlying22 (i:=Tryz.t3) kr fR fun n1 o1 q1 _ r1 s1=>jOO 9 rfl<|sAdd (i:Int) 1<|jOI 2 rfl ?_
  exact ⟨(i+1,(zs++[a0.arg]),n1,(A0+1),o1,q1),od,alB,(s1.drops [0,0]),om,by rw [hG,drop_at b0];exact rn_push om (by unfold appV;rw [if_neg om,if_neg om,if_pos om]) (by unfold accP;unfold argP at C0;omega),by rw [List.length_append];simp only [List.length_cons,List.length_nil];rw [show (((zs.length+(0+1):Nat)):Int)=(zs.length:Int)+(1-takesV a0.code) from by rw [show takesV a0.code=0 from by unfold takesV;rw [if_pos om]];omega];exact F0,(by
    intro z hz
    rcases List.mem_append.1 hz with h|h
    ·exact D0 z h
    ·simp only [List.mem_singleton] at h;subst h;unfold argP at C0;omega),by simp;omega,r1⟩
 refine jCC 4 rfl ?_
 have N0:3<=a0.code:=om;have R0:=L0 N0
 refine gCO c0 3 [0] rfl<|cS (p14_takes a0.code c0.flat) fun _ u1=>?_
 have e3:(0<=(ptakesV a0.code)/\(ptakesV a0.code)<=2)/\(¬(0<=a0.code/\a0.code<=11)\/(ptakesV a0.code)=takesV a0.code):=ptakes_bd _
 refine jOO 12 rfl<|sSub (A0:Int) (ptakesV a0.code)<|jOC 4 rfl ?_
 obtain ⟨d0,f3,g3,i0,v1,w1,h3⟩:=OwnT.elem B0 ((A0:Int)-(ptakesV a0.code))
 obtain ⟨e0,i3,j3,j0,x1,y1,k3⟩:=OwnT.elem B0 ((A0:Int)-1)
 refine drawF u1 [11] (fb 0 0 0 2<|fq 4 0 (v1.up 1 rfl)<|fq 10 0 (x1.up 1 rfl)<|fn) [1,2,3,5,6,7,8,9,0,4,10,11,12,13,14,15,16] fun _ z1=>wV 2<|wI w1<|wV 3<|wSub (A0:Int) 1<|wI y1<|wG 0 2<|wL 2<|wL 3<|wO rfl<|cS (p14_value a0 d0 e0 (D0 _ (List.mem_of_getElem? i0)) (D0 _ (List.mem_of_getElem? j0)) om C0 z1.flat) fun _ k0=>nA<|wV 1<|wV 1<|wV 1<|wV 2<|wN<|jXC 8 rfl<|CDn (appOK a0 d0 e0 0 0) (fun h0=>jCR 13 rfl<|retT [I 0,I 11]<|(by have a2:=(k0.drops [0,0]);have J0:rnGo a b l []=none:=(by rw [hG,drop_at b0];exact rn_no om (by have e:=i0;rw [show zs.length-(takesV a0.code).toNat=((A0:Int)-(ptakesV a0.code)).toNat by omega];exact e) (by have e:=j0;rw [show zs.length-1=((A0:Int)-1).toNat by omega];exact e) h0);exact ⟨by rw [show runV l a b=(0,11) from by unfold runV;rw [J0]];rfl,a2⟩)) fun h0=>jCO 5 rfl<|sSl none (some ((A0:Int)-(ptakesV a0.code))) 0 ((((A0:Int)-(ptakesV a0.code))).toNat) runUnderlying22 sizeOf3 rfl ⟨om,om⟩ om om ?_ (a:=E0) (len:=A0) (cap:=H0)
 refine pu1<|sBK k0 #[I (appV a0 d0 e0 0 0)] 3 fun _ _ c2=>sApp (nb:=8) c2 (B0.part (lo:=0) (hi:=(((A0:Int)-(ptakesV a0.code))).toNat) om om) 2 (RdT.blk (enc:=Go.E.encI) (sz:=1) (xs:=[(appV a0 d0 e0 0 0)]) fR 1 0 rfl rfl rfl om) underlying22 (i:=Tryz.t3) kr fR fun d2 e2 f2 _ g2 h2=>jOO 5 rfl<|sAdd (i:Int) 1<|jOI 2 rfl ?_
 exact ⟨(i+1,(((zs.drop 0).take ((((A0:Int)-(ptakesV a0.code))).toNat-0))++[(appV a0 d0 e0 0 0)]),d2,(((((A0:Int)-(ptakesV a0.code))).toNat-0)+1),e2,f2),od,alB,(h2.drops [0,0]),om,by rw [hG,drop_at b0,rn_op (m:=((zs.drop 0).take ((((A0:Int)-(ptakesV a0.code))).toNat-0))) om (by have e:=i0;rw [show zs.length-(takesV a0.code).toNat=((A0:Int)-(ptakesV a0.code)).toNat by omega];exact e) (by have e:=j0;rw [show zs.length-1=((A0:Int)-1).toNat by omega];exact e) h0 (by rw [List.drop_zero];congr 1;omega)],by simp only [List.length_append,List.length_take,List.length_drop,List.length_cons,List.length_nil];rw [show (((min _ _+(0+1):Nat)):Int)=(zs.length:Int)+(1-takesV a0.code) from by omega];exact F0,(by
   intro z hz
   rcases List.mem_append.1 hz with h|h
   ·exact D0 z (List.mem_of_mem_drop (List.mem_of_mem_take h))
   ·simp only [List.mem_singleton] at h;subst h;exact app_acc h0),by simp;omega,g2⟩
theorem p14_tile (p:Plane) (u0:Plane) (two:Bool) (al:Option Addr) (nl kl:Nat) (l:List POp) (out:Int) (r:Rct) (hp:Plane.Ok [H] p) (hu0:Plane.Ok [H] u0) (hl:RdT encPOp 2 [H] al nl kl l) (hS:Sat W w (H::F)):
  Calls prog 93 #[.agg (encPlane p).toArray, .agg (encPlane u0).toArray, .bool two, .slice al nl kl,I out, .agg (encRct r).toArray] w fun e w'=>∃(q:Plane) (c:Int) (G:Chunk),e= .returned (.tuple #[.agg (encPlane q).toArray,I c])/\q.Ok [G]/\(q.v,c)=pwT p.v u0.v two l out r/\Sat W w' (G::H::F):=by
 have hl_p_pix:=hp.pix.le;have hn_p_pix:=hp.pix.len
 have hl_u0_pix:=hu0.pix.le;have hn_u0_pix:=hu0.pix.len
 have hl_l:=hl.le;have hn_l:=hl.len
 refine callsK 167 func93 rfl ?_
 refine jCO 2 rfl ?_
 refine sBox hS (.agg (encPlane p).toArray) (encPlane p).toArray ?_
 intro _ _ u1
 refine sBox u1 (.agg (encPlane u0).toArray) (encPlane u0).toArray ?_
 intro _ _ v1
 refine sBox v1 (.agg (encRct r).toArray) (encRct r).toArray ?_
 intro _ _ w1
 refine sAlloc w1 zeroValue38 ?_
 intro _ _ k0
 refine jOC 3 rfl ?_
 refine cutF k0 0 [2,3,4,6,7,11,12] (γ:=Unit) (fun _ R=>⟨[],R,0,(planeOK p.v=true/\(two=true->planeOK u0.v=true))⟩) ?_ ?_
 ·refine gCO k0 3 [403] rfl ?_
  refine cR call52 (p4_valid p ⟨(RdT.flat (hp.pix.up 4 (by rfl)))⟩ k0.flat) ?_
  intro _ f0
  refine pu2 ?_
  refine sBn 28 (planeOK p.v) (fun g0=>?_) (fun g0=>?_)
  rotate_left
  ·refine jOO 13 rfl ?_
   refine sTl f0 0 [I 0,I 0,I 0,nS] sizeOf38 ?_
   intro _ w0
   refine jOR 5 rfl<|retC w0 0 [I 0,I 0,I 0,nS] (I 1) (isAgg38 _) (sizeOf38 _) ?_
   have hC:pwC p.v u0.v two l out r=1:=pwC_1 (fun h=>g0 h.1)
   have z1:=(w0.drops [0,0,0,0])
   have a2:Sat W _ ([]::H::F):=Sat.nilc z1
   exact ⟨(⟨0,0,0,⟨none,0,0,[]⟩⟩:Plane),1,_,rfl,⟨RdT.nil (enc:=Go.E.encI) (sz:=1) fR [[]]⟩,(by rw [pwT_eq,okT_c hC om];rfl),a2⟩
  refine pu2 ?_
  refine sB 30 two (fun l0=>?_) (fun l0=>?_)
  rotate_left
  ·refine jOI 9 rfl ?_
   exact ⟨(),alB,f0,⟨g0,fun h=>absurd h l0⟩⟩
  refine gOO f0 1 [402] rfl<|gY ?_
  refine cR call52 (p4_valid u0 ⟨(RdT.flat (hu0.pix.up 4 (by rfl)))⟩ f0.flat) ?_
  intro _ z0
  refine jOC 5 rfl ?_
  refine cBn (planeOK u0.v) (fun m0=>?_) (fun m0=>?_)
  ·refine jCI 1 rfl ?_
   exact ⟨(),alB,z0,⟨g0,fun _=>m0⟩⟩
  refine jCO 3 rfl ?_
  refine sTl z0 0 [I 0,I 0,I 0,nS] sizeOf38 ?_
  intro _ a1
  refine jOR 5 rfl<|retC a1 0 [I 0,I 0,I 0,nS] (I 1) (isAgg38 _) (sizeOf38 _) ?_
  have hC:pwC p.v u0.v two l out r=1:=pwC_1 (fun h=>m0 (h.2 l0))
  have b2:=(a1.drops [0,0,0,0])
  have c2:Sat W _ ([]::H::F):=Sat.nilc b2
  exact ⟨(⟨0,0,0,⟨none,0,0,[]⟩⟩:Plane),1,_,rfl,⟨RdT.nil (enc:=Go.E.encI) (sz:=1) fR [[]]⟩,(by rw [pwT_eq,okT_c hC om];rfl),c2⟩
 rintro _ ρ _ ⟨d2,hP⟩
 refine jCO 5 rfl ?_
 refine cR call136 (p14_valid al nl kl l two (RdT.flat (hl.up 4 (by rfl))) d2.flat) ?_
 intro _ b0
 refine jOC 9 rfl ?_
 refine cN (opsCode l two) 0 (fun e2=>?_) (fun e2=>?_)
 rotate_left
 ·refine jCO 4 rfl ?_
  refine sTl b0 0 [I 0,I 0,I 0,nS] sizeOf38 ?_
  intro _ b1
  refine jOR 5 rfl<|retC b1 0 [I 0,I 0,I 0,nS] (I (opsCode l two)) (isAgg38 _) (sizeOf38 _) ?_
  have hpc:pwCode l two p.v.max_ u0.v.max_ out=(opsCode l two):=by unfold pwCode;rw [if_neg om]
  have hC:pwC p.v u0.v two l out r=(opsCode l two):=pwC_c hP hpc om
  have f2:=(b1.drops [0,0,0,0])
  have g2:Sat W _ ([]::H::F):=Sat.nilc f2
  exact ⟨(⟨0,0,0,⟨none,0,0,[]⟩⟩:Plane),(opsCode l two),_,rfl,⟨RdT.nil (enc:=Go.E.encI) (sz:=1) fR [[]]⟩,(by rw [pwT_eq,okT_c hC om];rfl),g2⟩
 refine jCO 8 rfl ?_
 refine sD 46 (out<1) (fun i2=>?_) (fun i2=>?_)
 ·refine jOO 9 rfl ?_
  refine sTl b0 0 [I 0,I 0,I 0,nS] sizeOf38 ?_
  intro _ c1
  refine jOR 5 rfl<|retC c1 0 [I 0,I 0,I 0,nS] (I 2) (isAgg38 _) (sizeOf38 _) ?_
  have hpc:pwCode l two p.v.max_ u0.v.max_ out=2:=by unfold pwCode;rw [if_pos om,if_neg om]
  have hC:pwC p.v u0.v two l out r=2:=pwC_c hP hpc om
  have j2:=(c1.drops [0,0,0,0])
  have k2:Sat W _ ([]::H::F):=Sat.nilc j2
  exact ⟨(⟨0,0,0,⟨none,0,0,[]⟩⟩:Plane),2,_,rfl,⟨RdT.nil (enc:=Go.E.encI) (sz:=1) fR [[]]⟩,(by rw [pwT_eq,okT_c hC om];rfl),k2⟩
 refine jOC 5 rfl ?_
 refine cD (out>4294967296) (fun l2=>?_) (fun l2=>?_)
 ·refine jCO 3 rfl ?_
  refine sTl b0 0 [I 0,I 0,I 0,nS] sizeOf38 ?_
  intro _ d1
  refine jOR 5 rfl<|retC d1 0 [I 0,I 0,I 0,nS] (I 2) (isAgg38 _) (sizeOf38 _) ?_
  have hpc:pwCode l two p.v.max_ u0.v.max_ out=2:=by unfold pwCode;rw [if_pos om,if_neg om]
  have hC:pwC p.v u0.v two l out r=2:=pwC_c hP hpc om
  have m2:=(d1.drops [0,0,0,0])
  have n2:Sat W _ ([]::H::F):=Sat.nilc m2
  exact ⟨(⟨0,0,0,⟨none,0,0,[]⟩⟩:Plane),2,_,rfl,⟨RdT.nil (enc:=Go.E.encI) (sz:=1) fR [[]]⟩,(by rw [pwT_eq,okT_c hC om];rfl),n2⟩
 refine jCC 7 rfl ?_
 refine cutF b0 0 [2,3,4,6,7,11,12] (γ:=Int) (fun sv R=>⟨[(15,I sv)],R,0,sv=(if two=true then u0.max_ else 1)⟩) ?_ ?_
 ·refine jCC 5 rfl ?_
  refine cB two (fun n0=>?_) (fun n0=>?_)
  rotate_left
  ·refine jCI 1 rfl ?_
   exact ⟨1,alB,b0,(by rw [if_neg n0])⟩
  refine gCI b0 5 [2] rfl ?_
  exact ⟨u0.max_,alB,b0,(by rw [if_pos n0])⟩
 rintro sv ρ _ ⟨e1,hsv⟩
 refine gCO e1 7 [3] rfl ?_
 refine cR call137 (p14_interval al nl kl l p.max_ sv (RdT.flat (hl.up 4 (by rfl))) e1.flat) ?_
 intro _ c0
 refine jOC 15 rfl ?_
 refine cN ((ivRes l p.max_ sv).2.2) 0 (fun o2=>?_) (fun o2=>?_)
 rotate_left
 ·refine jCO 4 rfl ?_
  refine sTl c0 0 [I 0,I 0,I 0,nS] sizeOf38 ?_
  intro _ f1
  refine jOR 5 rfl<|retC f1 0 [I 0,I 0,I 0,nS] (I ((ivRes l p.max_ sv).2.2)) (isAgg38 _) (sizeOf38 _) ?_
  have hpc:pwCode l two p.v.max_ u0.v.max_ out=(ivRes l p.max_ sv).2.2:=by unfold pwCode;rw [if_pos om,if_pos om,hsv];rfl
  have hC:pwC p.v u0.v two l out r=(ivRes l p.max_ sv).2.2:=pwC_c hP hpc om
  have q2:=(f1.drops [0,0,0,0])
  have r2:Sat W _ ([]::H::F):=Sat.nilc q2
  exact ⟨(⟨0,0,0,⟨none,0,0,[]⟩⟩:Plane),((ivRes l p.max_ sv).2.2),_,rfl,⟨RdT.nil (enc:=Go.E.encI) (sz:=1) fR [[]]⟩,(by rw [pwT_eq,okT_c hC om];rfl),r2⟩
 refine jCC 3 rfl ?_
 refine cutF c0 0 [2,3,4,6,7,11,12] (γ:=Unit) (fun _ R=>⟨[(81, .bool (decide (¬(two=true->p.w=u0.w/\p.h=u0.h))))],R,0,True⟩) ?_ ?_
 ·refine jCO 3 rfl ?_
  refine sB 68 two (fun h0=>?_) (fun h0=>?_)
  rotate_left
  ·refine jOI 14 rfl ?_
   exact ⟨(),⟨⟨(Eq.trans (b:= .bool false) kr (congrArg Value.bool (decide_eq_false (p:=¬(two=true->p.w=u0.w/\p.h=u0.h)) (by first|(exact fun h=>h (fun e=>absurd e h0))|(simp_all;done)|(simp_all;omega)|omega)).symm)),trivial⟩,sA⟩,c0,trivial⟩
  refine gOO c0 6 [3,2] rfl ?_
  refine sN 74 p.w u0.w (fun s2=>?_) (fun s2=>?_)
  rotate_left
  ·refine jOI 8 rfl ?_
   exact ⟨(),⟨⟨(Eq.trans (b:= .bool true) kr (congrArg Value.bool (decide_eq_true (p:=¬(two=true->p.w=u0.w/\p.h=u0.h)) (by exact fun h=>by have h1:=h h0;omega)).symm)),trivial⟩,sA⟩,c0,trivial⟩
  refine gOI c0 8 [3,2] rfl ?_
  exact ⟨(),⟨⟨(Eq.trans (b:= .bool ((p.h:Int)!=u0.h)) kr (congrArg Value.bool (by rw [Bool.eq_iff_iff];simp only [decide_eq_true_eq,beq_iff_eq,bne_iff_ne,ne_eq,Bool.not_eq_true',decide_eq_false_iff_not,gt_iff_lt,ge_iff_le,Bool.and_eq_true,Bool.or_eq_true,Bool.not_eq_eq_eq_not,Bool.not_true,Bool.and_eq_false_imp,beq_eq_false_iff_ne]<;>first|(exact fun h=>h (fun e=>absurd e h0))|(simp_all;done)|(simp_all;omega)|omega))),trivial⟩,sA⟩,c0,trivial⟩
 rintro _ ρ _ ⟨o0,_⟩
 refine cD (¬(two=true->p.w=u0.w/\p.h=u0.h)) (fun p0=>?_) (fun p0=>?_)
 ·refine jCO 3 rfl ?_
  refine sTl o0 0 [I 0,I 0,I 0,nS] sizeOf38 ?_
  intro _ g1
  refine jOR 5 rfl<|retC g1 0 [I 0,I 0,I 0,nS] (I 8) (isAgg38 _) (sizeOf38 _) ?_
  have hpc:pwCode l two p.v.max_ u0.v.max_ out=(ivRes l p.max_ sv).2.2:=by unfold pwCode;rw [if_pos om,if_pos om,hsv];rfl
  have hp0:pwCode l two p.v.max_ u0.v.max_ out=0:=by rw [hpc];omega
  have hC:pwC p.v u0.v two l out r=8:=pwC_8 hP hp0 (fun h=>p0 h.1)
  have t2:=(g1.drops [0,0,0,0])
  have u2:Sat W _ ([]::H::F):=Sat.nilc t2
  exact ⟨(⟨0,0,0,⟨none,0,0,[]⟩⟩:Plane),8,_,rfl,⟨RdT.nil (enc:=Go.E.encI) (sz:=1) fR [[]]⟩,(by rw [pwT_eq,okT_c hC om];rfl),u2⟩
 refine gCO o0 6 [401] rfl ?_
 refine cR call53 (p2_empty r o0.flat) ?_
 intro _ q0
 refine pu1 ?_
 refine sD 85 (r.x0=0/\r.y0=0/\r.x1=0/\r.y1=0) (fun r0=>?_) (fun r0=>?_)
 ·refine jOO 15 rfl ?_
  refine sTl q0 0 [I 0,I 0,I 0,nS] sizeOf38 ?_
  intro _ i1
  refine jOR 5 rfl<|retC i1 0 [I 0,I 0,I 0,nS] (I 8) (isAgg38 _) (sizeOf38 _) ?_
  have hpc:pwCode l two p.v.max_ u0.v.max_ out=(ivRes l p.max_ sv).2.2:=by unfold pwCode;rw [if_pos om,if_pos om,hsv];rfl
  have hp0:pwCode l two p.v.max_ u0.v.max_ out=0:=by rw [hpc];omega
  have hsz:=(plane_sz hP.1).1;unfold sizeP at hsz;simp only [Plane.v] at hsz
  have hC:pwC p.v u0.v two l out r=8:=pwC_8 hP hp0 (fun h=>by have h2:=(ins_in (by simp only [Plane.v];omega) (by simp only [Plane.v];omega)).2 h.2;exact h2.1 r0)
  have v2:=(i1.drops [0,0,0,0])
  have w2:Sat W _ ([]::H::F):=Sat.nilc v2
  exact ⟨(⟨0,0,0,⟨none,0,0,[]⟩⟩:Plane),8,_,rfl,⟨RdT.nil (enc:=Go.E.encI) (sz:=1) fR [[]]⟩,(by rw [pwT_eq,okT_c hC om];rfl),w2⟩
 refine gOO q0 6 [401,3,3] rfl<|gY ?_
 refine cR call54 (p2_inside r (⟨0,0,p.w,p.h⟩:Rct) q0.flat) ?_
 intro _ i0
 refine jOC 4 rfl ?_
 refine cDn (insP r (⟨0,0,p.w,p.h⟩:Rct)) (fun s0=>?_) (fun s0=>?_)
 rotate_left
 ·refine jCO 3 rfl ?_
  refine sTl i0 0 [I 0,I 0,I 0,nS] sizeOf38 ?_
  intro _ j1
  refine jOR 5 rfl<|retC j1 0 [I 0,I 0,I 0,nS] (I 8) (isAgg38 _) (sizeOf38 _) ?_
  have hpc:pwCode l two p.v.max_ u0.v.max_ out=(ivRes l p.max_ sv).2.2:=by unfold pwCode;rw [if_pos om,if_pos om,hsv];rfl
  have hp0:pwCode l two p.v.max_ u0.v.max_ out=0:=by rw [hpc];omega
  have hsz:=(plane_sz hP.1).1;unfold sizeP at hsz;simp only [Plane.v] at hsz
  have hC:pwC p.v u0.v two l out r=8:=pwC_8 hP hp0 (fun h=>by have h2:=(ins_in (by simp only [Plane.v];omega) (by simp only [Plane.v];omega)).2 h.2;exact s0 h2.2)
  have x2:=(j1.drops [0,0,0,0])
  have y2:Sat W _ ([]::H::F):=Sat.nilc x2
  exact ⟨(⟨0,0,0,⟨none,0,0,[]⟩⟩:Plane),8,_,rfl,⟨RdT.nil (enc:=Go.E.encI) (sz:=1) fR [[]]⟩,(by rw [pwT_eq,okT_c hC om];rfl),y2⟩
 refine jCC 3 rfl ?_
 obtain ⟨hpo,hqq⟩:=hP;have hsz:=(plane_sz hpo).1;unfold sizeP at hsz;simp only [Plane.v] at hsz;have hss:=Classical.not_not.1 p0;have hq9:two=true->planeOK u0.v=true/\p.w=u0.w/\p.h=u0.h:=fun h=>⟨hqq h,hss h⟩;have hri:rIn r p.w p.h:=(ins_in om om).1 ⟨r0,s0⟩;have hoc:opsCode l two=0:=by omega
 have hp0:pwCode l two p.v.max_ u0.v.max_ out=0:=by
  have e:pwCode l two p.v.max_ u0.v.max_ out=(ivRes l p.max_ sv).2.2:=by unfold pwCode;rw [if_pos om,if_pos om,hsv];rfl
  rw [e];omega
 have hri0:=hri;unfold rIn at hri0
 obtain ⟨Wn,hW⟩:∃k:Nat,r.x1-r.x0=(k:Int):=⟨_,(Int.toNat_of_nonneg om).symm⟩;obtain ⟨Hn,hH⟩:∃k:Nat,r.y1-r.y0=(k:Int):=⟨_,(Int.toNat_of_nonneg om).symm⟩
 have hWb:1<=Wn/\Wn<=128/\1<=Hn/\Hn<=128:=om;have hWH:Hn*Wn<=4096:=by have h1:=rIn_area hri (by first|omega|assumption);rw [hW,hH] at h1;have h2:((Hn*Wn:Nat):Int)=(Wn:Int)*(Hn:Int):=(by push_cast;rw [Int.mul_comm]);omega
 have hWi:(r.x1-r.x0)*(r.y1-r.y0)=((Hn*Wn:Nat):Int):=by rw [hW,hH];push_cast;rw [Int.mul_comm]
 have hpl:p.v.pix.length=p.pix.n:=hn_p_pix
 refine gCO i0 5 [1,1] rfl ?_
 refine sSub r.x1 r.x0 ?_
 refine gOO i0 4 [1,1] rfl ?_
 refine sSub r.y1 r.y0 ?_
 refine pu2 ?_
 refine sAlloc i0 zeroValue38 ?_
 intro k1 _ z2
 refine sTl z2 0 [I (r.x1-r.x0),I (r.y1-r.y0),I out,nS] sizeOf38 ?_
 intro _ l1
 refine gOO l1 8 [0,0] rfl ?_
 refine sMul (r.x1-r.x0) (r.y1-r.y0) ?_
 refine sMake0 (kl:= .i64) (kc:= .i64) (enc:=Go.E.encI) (sz:=1) (nb:=8) l1 (((r.x1-r.x0)*(r.y1-r.y0))).toNat ((r.x1-r.x0)*(r.y1-r.y0)) (om:((r.x1-r.x0)*(r.y1-r.y0))=(((((r.x1-r.x0)*(r.y1-r.y0))).toNat:Nat):Int)) underlying22 (i:=Tryz.t3) kr fR ?_
 intro m1 a3 _ b3 c3
 refine pu1 ?_
 refine tW c3 1 3 (.slice (At m1 0) 0 ((((r.x1-r.x0)*(r.y1-r.y0))).toNat)) sizeOf22 ?_
 intro _ n1
 refine jOC 4 rfl ?_
 obtain ⟨f,hf⟩:∃f:Int->Int->Int,f=fun i j=>pwX p.v u0.v two l out (r.x0+i) (r.y0+j):=⟨_,rfl⟩
 refine gCC n1 7 [3] rfl ?_
 refine loopF [2,3,4,6,7,11,12,19] (γ:=Nat×Int×(List Int)×(Option Addr)×Nat×Nat×Chunk) (fun ⟨i,yy,zs,azs,nzs,kzs,czs⟩ R=>⟨[(20,I yy)],czs::[(k1, .cells #[I (r.x1-r.x0),I (r.y1-r.y0),I out, .slice azs nzs kzs] 38 (0,0))]::R,Hn-i,i<=Hn/\(yy=r.y0+(i:Int))/\(zs=gridN Wn f (i*Wn))/\OwnT Go.E.encI 3 1 azs nzs kzs zs czs⟩) (0,r.y0,[],(At m1 0),0,(((r.x1-r.x0)*(r.y1-r.y0))).toNat,a3) ⟨n1,om,om,(by rw [Nat.zero_mul];rfl),b3⟩ ?_
 rintro ⟨i,yy,zs,azs,nzs,kzs,czs⟩ ρ _ ⟨e0,hi,hyy,hE,hOzs⟩
 have hn_zs:=hOzs.len;have hl_zs:=hOzs.le
 refine gCC e0 9 [3] rfl ?_
 refine cD (yy<r.y1) (fun d3=>?_) (fun d3=>?_)
 rotate_left
 ·refine gCO e0 8 [401] rfl ?_
  refine sTl e0 2 [I (r.x1-r.x0),I (r.y1-r.y0),I out, .slice azs nzs kzs] sizeOf38 ?_
  intro _ o1
  refine jOR 4 rfl<|retC o1 2 [I (r.x1-r.x0),I (r.y1-r.y0),I out, .slice azs nzs kzs] (I 0) (isAgg38 _) (sizeOf38 _) ?_
  have hz9:zs=gridN Wn f (Hn*Wn):=by rw [hE,show i=Hn by omega]
  have hC:pwC p.v u0.v two l out r=0:=pwC_0 ⟨hpo,hqq⟩ hp0 ⟨fun h=>(hq9 h).2,hri⟩
  exact ⟨(⟨(r.x1-r.x0),(r.y1-r.y0),out,⟨azs,nzs,kzs,zs⟩⟩:Plane),0,_,rfl,⟨(hOzs.rdAt (cs:=[czs]) 0 rfl)⟩,(by rw [pwT_eq,okT_0 hC,mk_pl hri hW hH (hf▸hz9)];rfl),(o1.drops [1,1,1,1,1])⟩
 refine jCC 5 rfl ?_
 have hix:=pl_ix hpo (x:=r.x1-1) (y:=yy) (by simp only [Plane.v];omega) (by simp only [Plane.v];omega);rw [hpl] at hix;simp only [Plane.v] at hix
 refine gCO e0 4 [5] rfl ?_
 refine sMul yy p.w ?_
 refine gOO e0 2 [3] rfl ?_
 refine sAdd (yy*p.w) r.x0 ?_
 refine jOC 4 rfl ?_
 refine loopF [2,3,4,6,7,11,12,19,20] (γ:=Nat×Int×(List Int)×(Option Addr)×Nat×Nat×Chunk) (fun ⟨j,xx,zt,azt,nzt,kzt,czt⟩ R=>⟨[(21,I xx)],czt::[(k1, .cells #[I (r.x1-r.x0),I (r.y1-r.y0),I out, .slice azt nzt kzt] 38 (0,0))]::R,Wn-j,j<=Wn/\(xx=yy*p.w+r.x0+(j:Int))/\(zt=gridN Wn f (i*Wn+j))/\OwnT Go.E.encI 3 1 azt nzt kzt zt czt⟩) (0,((yy*p.w)+r.x0),zs,azs,nzs,kzs,czs) ⟨e0,om,om,(by rw [Nat.add_zero];exact hE),hOzs⟩ ?_
 rintro ⟨j,xx,zt,azt,nzt,kzt,czt⟩ ρ _ ⟨a0,hj,hxx,hE2,hOzt⟩
 have hn_zt:=hOzt.len;have hl_zt:=hOzt.le
 have hzl:zt.length=i*Wn+j:=by rw [hE2,grid_len]
 have hij:i*Wn+j<=Hn*Wn:=by have h1:=Nat.mul_le_mul_right Wn (show i+1<=Hn by omega);rw [Nat.add_mul,Nat.one_mul] at h1;omega
 refine gCO a0 7 [5] rfl ?_
 refine sMul yy p.w ?_
 refine gOO a0 2 [3] rfl ?_
 refine sAdd (yy*p.w) r.x1 ?_
 refine jOC 3 rfl ?_
 refine cD (xx<((yy*p.w)+r.x1)) (fun f3=>?_) (fun f3=>?_)
 rotate_left
 ·refine jCO 8 rfl ?_
  refine sAdd yy 1<|jOI 2 rfl ?_
  exact ⟨(i+1,(yy+1),zt,azt,nzt,kzt,czt),od,alB,a0,om,om,(by rw [Nat.add_mul,Nat.one_mul,hE2,show j=Wn by omega]),hOzt⟩
 refine jCC 9 rfl ?_
 refine cutF a0 0 [2,3,4,6,7,11,12,19,20,21] (γ:=Int) (fun bv R=>⟨[(22,I bv)],R,0,bv=(if two=true then pixAt u0.v (r.x0+(j:Int)) (r.y0+(i:Int)) else 0)/\(0<=bv/\bv<=4294967296)⟩) ?_ ?_
 ·refine jCC 5 rfl ?_
  refine cB two (fun j0=>?_) (fun j0=>?_)
  rotate_left
  ·refine jCI 1 rfl ?_
   exact ⟨0,alB,a0,(by rw [if_neg j0]),om⟩
  obtain ⟨hqo,hqw⟩:=hq9 j0;have hqs:=(plane_sz hqo).1;unfold sizeP at hqs;simp only [Plane.v] at hqs;have hql:u0.v.pix.length=u0.pix.n:=hn_u0_pix;have hqz:=plane_sz hqo;have hpz:=plane_sz hpo;simp only [Plane.v] at hqz hpz;have hqp:u0.pix.n=p.pix.n:=by have h1:=hqz.2.1;have h2:=hpz.2.1;rw [show u0.w=p.w by omega,show u0.h=p.h by omega] at h1;omega
  refine gCO a0 4 [4] rfl ?_
  refine sIdx hu0.pix xx runUnderlying22 sizeOf3 ?_
  intro t0 _ _ g3 h3
  have hqa:pixAt u0.v (r.x0+(j:Int)) (r.y0+(i:Int))=t0:=by
   refine pixAt_eq ?_
   rw [<-g3];simp only [Plane.v];congr 1;rw [hxx,hyy,show u0.w=p.w by omega,Int.add_comm r.x0,<-Int.add_assoc];omega
  have hqb:=pixAt_bd hqo (r.x0+(j:Int)) (r.y0+(i:Int));rw [hqa] at hqb;simp only [Plane.v] at hqb
  refine sLp a0 (h3.up 6 rfl) 0 (I t0) (isAgg3 _) ?_
  refine jOI 2 rfl ?_
  exact ⟨t0,alB,a0,(by rw [if_pos j0,hqa]),om⟩
 rintro bv ρ _ ⟨v0,hbv,hbb⟩
 refine gCO v0 6 [5] rfl ?_
 refine sIdx hp.pix xx runUnderlying22 sizeOf3 ?_
 intro d0 _ _ i3 j3
 have hpa:pixAt p.v (r.x0+(j:Int)) (r.y0+(i:Int))=d0:=by
  refine pixAt_eq ?_
  rw [<-i3];simp only [Plane.v];congr 1;rw [hxx,hyy,Int.add_comm r.x0,<-Int.add_assoc];omega
 have hpb:=pixAt_bd hpo (r.x0+(j:Int)) (r.y0+(i:Int));rw [hpa] at hpb;simp only [Plane.v] at hpb
 refine sLp v0 (j3.up 6 rfl) 0 (I d0) (isAgg3 _) ?_
 refine pu1 ?_
 refine cR call138 (p14_run al nl kl l d0 bv (RdT.flat (hl.up 6 (by rfl))) _ hoc om om v0.flat) ?_
 intro _ k3
 refine jOC 7 rfl ?_
 refine drawF k3 [4,5,6,8] (fb 1 1 3 1<|fn) [0,2,3,1,4,5,6,7,8] fun _ l3=>?_
 refine wV 3 ?_
 refine wL 0 ?_
 refine wO rfl ?_
 refine cR call128 (p7_clamp ((runV l d0 bv).1) out l3.flat) ?_
 intro _ q1
 refine nZ q1 [1] ?_
 refine wO rfl ?_
 refine sBS q1 #[I (clampV ((runV l d0 bv).1) out)] runUnderlying22 sizeOf3 zeroValue3 ?_
 intro _ _ r1
 refine nZ r1 [2] ?_
 refine wO rfl ?_
 refine sApp (nb:=8) r1 hOzt 1 (RdT.blk (enc:=Go.E.encI) (sz:=1) (xs:=[(clampV ((runV l d0 bv).1) out)]) fR 1 0 rfl rfl rfl om) underlying22 (i:=Tryz.t3) kr fR ?_
 intro s1 t1 m3 _ n3 o3
 refine nA ?_
 refine wV 1 ?_
 refine wO rfl ?_
 refine tW o3 2 3 (.slice s1 (nzt+1) t1) sizeOf22 ?_
 intro _ p3
 refine nA ?_
 refine wN<|jXO 4 rfl ?_
 refine sAdd xx 1<|jOI 2 rfl ?_
 exact ⟨(j+1,(xx+1),(zt++[(clampV ((runV l d0 bv).1) out)]),s1,(nzt+1),t1,m3),od,alB,(p3.dropAt 0 rfl),om,om,(by rw [<-Nat.add_assoc,grid_succ om,<-hE2,hf];dsimp only;unfold pwX;rw [hpa,<-hbv]),n3⟩
end Go.Proofs.YtghcddbhllkbmaaGreat
