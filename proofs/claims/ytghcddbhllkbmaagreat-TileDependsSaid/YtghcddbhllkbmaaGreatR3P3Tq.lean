import Derived.WalkKit
import Derived.Deep.Quiet
import Derived.KernelRfl
import Derived.Laws.BytesString
import Derived.Laws.Shifts
import Derived.Laws.IdiomStrings
import Derived.OpenShut
import Derived.Test.YtghcddbhllkbmaaGreatProg
import Derived.Laws.IdiomRangeMap
import Derived.Test.YtghcddbhllkbmaaGreatR3P3Tm
namespace Go.Proofs.YtghcddbhllkbmaaGreat
open Go Go.E Go.Proofs.Tryz
set_option linter.all false
set_option maxRecDepth 100000
set_option maxHeartbeats 2000000
variable {W w:World} {H:Chunk} {F:List Chunk}
def tabN {α:Type} (f:Nat->α) (n:Nat):List α:=(List.range n).map f
theorem tab_len {α:Type} (f:Nat->α) (n:Nat):(tabN f n).length=n:=by simp [tabN]
theorem tab_succ {α:Type} (f:Nat->α) (n:Nat):tabN f (n+1)=tabN f n++[f n]:=by unfold tabN;rw [List.range_succ,List.map_append];rfl
theorem tab_at {α:Type} {f:Nat->α} {n k:Nat} (h:k<n):(tabN f n)[k]?=some (f k):=by unfold tabN;rw [List.getElem?_map,List.getElem?_range h];rfl
theorem tab_congr {α:Type} {f g:Nat->α} {n:Nat} (h:∀k,k<n->f k=g k):tabN f n=tabN g n:=by unfold tabN;exact List.map_congr_left (fun k hk=>h k (List.mem_range.1 hk))
theorem tab_zero {n:Nat} {α:Type} {z:α} {f:Nat->α} (h:∀k,k<n->f k=z):List.replicate n z=tabN f n:=by
  apply List.ext_getElem?
  intro k
  by_cases hk:k<n
  · rw [tab_at hk,h k hk,List.getElem?_replicate,if_pos hk]
  · rw [List.getElem?_eq_none (by simp;omega),List.getElem?_eq_none (by rw [tab_len];omega)]
def mixN {α:Type} (f g:Nat->α) (i n:Nat):List α:=tabN (fun k=>if k<i then f k else g k) n
theorem mix_len {α:Type} (f g:Nat->α) (i n:Nat):(mixN f g i n).length=n:=tab_len _ _
theorem mix_0 {α:Type} (f g:Nat->α) (n:Nat):mixN f g 0 n=tabN g n:=tab_congr (fun k _=>by rw [if_neg (by omega)])
theorem mix_n {α:Type} (f g:Nat->α) (n:Nat):mixN f g n n=tabN f n:=tab_congr (fun k hk=>by rw [if_pos hk])
theorem mix_at {α:Type} {f g:Nat->α} {i n:Nat} (h:i<n):(mixN f g i n)[i]?=some (g i):=by unfold mixN;rw [tab_at h,if_neg (Nat.lt_irrefl _)]
theorem mix_set {α:Type} {f g:Nat->α} {i n:Nat} {v:α} (hv:v=f i):(mixN f g i n).set i v=mixN f g (i+1) n:=by
 apply List.ext_getElem?
 intro k
 rw [List.getElem?_set]
 by_cases hk:k<n
 ·unfold mixN
  rw [tab_at hk,tab_at hk,tab_len]
  by_cases he:i=k
  ·subst he;rw [if_pos rfl,if_pos hk,if_pos om,hv]
  ·rw [if_neg he]
   by_cases h2:k<i
   ·rw [if_pos h2,if_pos om]
   ·rw [if_neg h2,if_neg om]
 ·rw [List.getElem?_eq_none (l:=mixN f g (i+1) n) (by rw [mix_len];omega),List.getElem?_eq_none (l:=mixN f g i n) (by rw [mix_len];omega)]
  split
  ·rename_i h;subst h;rw [if_neg (by rw [mix_len];omega)]
  ·rfl
theorem fill_setG {α:Type} {z:α} {l:List α} {n m:Nat} {v:α} (h:l.length=n) (hm:n<m):(l++List.replicate (m-n) z).set n v=(l++[v])++List.replicate (m-(n+1)) z:=by
  subst h
  obtain ⟨k,rfl⟩:∃k,m=l.length+1+k:=⟨m-l.length-1,by omega⟩
  rw [show l.length+1+k-l.length=k+1 by omega,show l.length+1+k-(l.length+1)=k by omega,List.set_append_right _ _ (Nat.le_refl _),Nat.sub_self,List.replicate_succ,List.set_cons_zero,List.append_assoc];rfl
def pxR (p:PlaneV) (pol fill x y:Int) (n:Nat):List Int:=tabN (fun k=>pixV p pol fill (x+(k:Int)) y) n
def midR (p:PlaneV) (pol fill:Int) (row:List Int) (sh x y:Int) (n:Nat):List Int:=tabN (fun k=>midV p pol fill row sh (x+(k:Int)) y) n
theorem pxR_len (p:PlaneV) (pol fill x y:Int) (n:Nat):(pxR p pol fill x y n).length=n:=tab_len _ _
theorem midR_len (p:PlaneV) (pol fill:Int) (row:List Int) (sh x y:Int) (n:Nat):(midR p pol fill row sh x y n).length=n:=tab_len _ _
theorem mid_succ {p:PlaneV} {pol fill x y w:Int} {row:List Int} {i:Nat} (hw:row[i]?=some w):midS p pol fill row x y (i+1)=midS p pol fill row x y i+w*pixV p pol fill (x+(i:Int)-(row.length:Int)/2) y:=by
  unfold midS;rw [sumN_succ,List.getD_eq_getElem?_getD,hw];rfl
theorem sep_succ {p:PlaneV} {pol fill sh x y w:Int} {row col:List Int} {j:Nat} (hw:col[j]?=some w):sepS p pol fill row col sh x y (j+1)=sepS p pol fill row col sh x y j+w*midV p pol fill row sh x (y+(j:Int)-(col.length:Int)/2):=by
  unfold sepS;rw [sumN_succ,List.getD_eq_getElem?_getD,hw];rfl
theorem pix_eq {p:PlaneV} {pol fill x y x2 y2:Int} (hx:x=x2) (hy:y=y2):pixV p pol fill x y=pixV p pol fill x2 y2:=by rw [hx,hy]
theorem mid_eq {p:PlaneV} {pol fill sh x y y2:Int} {row:List Int} (hy:y=y2):midV p pol fill row sh x y=midV p pol fill row sh x y2:=by rw [hy]
theorem tapS_succ {p:PlaneV} {pol fill k w:Int} {t:TapV} {i:Nat} (hw:t.weights[i]?=some w):tapS p pol fill t k (i+1)=tapS p pol fill t k i+w*pixV p pol fill (t.first+(i:Int)) k:=by
  unfold tapS;rw [sumN_succ,List.getD_eq_getElem?_getD,hw];rfl
theorem resS_succ {p:PlaneV} {pol fill sh w:Int} {s t:TapV} {j:Nat} (hw:t.weights[j]?=some w):resS p pol fill s t sh (j+1)=resS p pol fill s t sh j+w*tapV p pol fill s sh (t.first+(j:Int)):=by
  unfold resS;rw [sumN_succ,List.getD_eq_getElem?_getD,hw];rfl
def tapR (p:PlaneV) (pol fill:Int) (x:List TapV) (sh x0 k:Int) (n:Nat):List Int:=tabN (fun u=>tapV p pol fill (tapAt x (x0+(u:Int))) sh k) n
theorem tapAt_eq {l:List TapV} {i:Int} {t:TapV} (h:l[i.toNat]?=some t):tapAt l i=t:=by unfold tapAt;rw [h];rfl
theorem inc_set {c:List Int} {k:Int} {v:Int} (h:c[k.toNat]?=some v):c.set k.toNat (v+1)=incV c k:=by unfold incV;rw [List.getD_eq_getElem?_getD,h];rfl
theorem pixAt_eq {p:PlaneV} {x y v:Int} (h:p.pix[(y*p.w+x).toNat]?=some v):pixAt p x y=v:=by unfold pixAt;rw [List.getD_eq_getElem?_getD,h];rfl
theorem colS_succ {p:PlaneV} {x y:Int} {n:Nat}:colS p x y (n+1)=colS p x y n+pixAt p x (y+(n:Int)):=by unfold colS;rw [sumN_succ]
theorem recS_succ {p:PlaneV} {x y:Int} {i j:Nat}:recS p x y (i+1) j=recS p x y i j+colS p (x+(i:Int)) y j:=by unfold recS;rw [sumN_succ]
theorem inM_f {m:Int} {l:List Int} {i:Nat} {v:Int} (h:l[i]?=some v) (hv:¬(0<=v/\v<=m)):¬inM m l=true:=by
  unfold inM;intro e
  exact hv (of_decide_eq_true (List.all_eq_true.1 e v (List.mem_of_getElem? h)))
structure IL where
  l:Sl Int
def encIL (x:IL):List Value:=[.slice x.l.a x.l.n x.l.k]
structure ILV where
  l:List Int
  deriving DecidableEq
def IL.v (x:IL):ILV:=⟨x.l.l⟩
structure IL.Ok (cs:List Chunk) (q:IL):Prop where
  l:RdT Go.E.encI 1 cs q.l.a q.l.n q.l.k q.l.l
theorem IL.Ok.of_mem {cs cs':List Chunk} {x:IL} (h:IL.Ok cs x) (hm:∀p∈cs.flatten,p∈cs'.flatten):IL.Ok cs' x:=⟨h.l.of_mem hm⟩
theorem own_setSame {α:Type} {enc:α->List Value} {E sz:Nat} {a:Option Addr} {n k i:Nat} {xs:List α} {x y:α} {c:Chunk} (h:OwnT enc E sz a n k (xs.set i x) c) (e:enc x=enc y):OwnT enc E sz a n k (xs.set i y) c:=by
  have e2:(xs.set i x).flatMap enc=(xs.set i y).flatMap enc:=by rw [List.flatMap_def,List.flatMap_def,List.map_set,List.map_set,e]
  obtain ⟨h1,h2,h3⟩:=h
  rw [e2] at h3
  exact ⟨by rw [<-h1,List.length_set,List.length_set],h2,h3⟩
theorem rows_at {ms:List IL} {f:Nat->List Int} {n k:Nat} {x:IL} (h:ms.map (fun z=>z.l.l)=tabN f n) (hx:ms[k]?=some x) (hk:k<n):x.l.l=f k:=by
  have e:=congrArg (fun l=>l[k]?) h
  simp only [List.getElem?_map,hx,Option.map_some,tab_at hk] at e
  exact Option.some.inj e
theorem p10_pixels (p:Plane) (e0:Edge) (x:Int) (y:Int) (cnt:Int) (hp:Plane.Ok [H] p) (hpo:planeOK p.v=true) (hev:edgeV e0.policy e0.fill p.max_) (hcn:0<=cnt/\cnt<=1000) (hxy:-1000000<=x/\x<=1000000) (hS:Sat W w (H::F)):
  Calls prog 131 #[.agg (encPlane p).toArray, .agg #[I e0.policy,I e0.fill],I x,I y,I cnt] w fun e w'=>∃(az:Option Addr) (nz kz:Nat) (zs:List Int) (G:Chunk),e= .returned (.slice az nz kz)/\RdT Go.E.encI 1 [G] az nz kz zs/\zs=pxR p.v e0.policy e0.fill x y cnt.toNat/\Sat W w' (G::H::F):=by
 have E0:=hp.pix.le;have A0:=hp.pix.len
 have I0:=(plane_sz hpo).1;unfold sizeP at I0;simp only [Plane.v] at I0;have J0:p.v.pix.length=p.pix.n:=A0;obtain ⟨N,hN⟩:∃k:Nat,cnt=(k:Int):=⟨_,(Int.toNat_of_nonneg om).symm⟩
 refine callsK 68 func131 rfl<|jCO 2 rfl<|sBx hS (encPlane p) fun _ _ f0=>sBx f0 [I e0.policy,I e0.fill] fun _ _ g0=>jOO 6 rfl<|sMake (kl:= .i64) (kc:= .i64) (enc:=Go.E.encI) (sz:=1) (nb:=8) g0 0 (cnt).toNat cnt (om:cnt=(((cnt).toNat:Nat):Int)) underlying22 (i:=Tryz.t3) kr fR fun h0 i0 _ j0 d0=>gOO d0 10 [2,1] rfl<|cS (p3_index y p.h e0.policy d0.flat) fun _ k0=>jOC 16 rfl<|loopF [2,5,6,12,13,29] (γ:=Nat×(List Int)×SO) (fun ⟨i,zs,B0,D0,C0,F0⟩ R=>⟨[(30,I (i:Int)),(11, .slice B0 D0 C0)],F0::R,N-i,i<=N/\(zs.length=N)/\(zs=pxR p.v e0.policy e0.fill x y i++List.replicate (N-i) 0)/\OwnT Go.E.encI 3 1 B0 D0 C0 zs F0⟩) (0,(List.replicate (cnt).toNat 0),(At h0 0),(cnt).toNat,(cnt).toNat,i0) ⟨k0,om,(by rw [List.length_replicate];omega),(by rw [show (cnt).toNat=N by omega];rfl),j0⟩ ?_
 rintro ⟨i,zs,B0,D0,C0,F0⟩ ρ _ ⟨c0,hi,G0,hE,m0⟩
 have H0:=m0.ll
 exact jCC 6 rfl<|CD ((i:Int)<(((cnt).toNat:Nat):Int)) (fun l0=>jCR 12 rfl<|retT [.slice B0 D0 C0]<|(by have M0:zs=pxR p.v e0.policy e0.fill x y N:=(by rw [hE,show i=N by omega,Nat.sub_self,List.replicate_zero,List.append_nil]);exact ⟨B0,D0,C0,zs,_,rfl,(m0.rdAt (cs:=[F0]) 0 rfl),(by rw [show cnt.toNat=N by omega];exact M0),(c0.drops [1,1])⟩)) fun l0=>jCO 14 rfl<|sAdd x (i:Int)<|gOO c0 4 [2,1] rfl<|cS (p3_index (x+(i:Int)) p.w e0.policy c0.flat) fun _ a0=>jOO 11 rfl<|SB 45 ((idxV (x+(i:Int)) p.w e0.policy).isSome) (fun n0=>gOO a0 10 [1] rfl<|sIO m0 (i:Int) i fun o0 _ _ p0 _ q0=>sStF a0 m0 q0 0 i 0 o0 e0.fill p0 (I e0.fill) [I e0.fill] sizeOf3 fun _ r0 s0 t0=>jOO 4 rfl<|sAdd (i:Int) 1<|jOI 2 rfl<|⟨(i+1,(zs.set i e0.fill),B0,D0,C0,r0),od,alB,t0,om,(by rw [List.length_set];exact G0),(by rw [hE,fill_set (pxR_len _ _ _ _ _ _) om,pxR,pxR,tab_succ,pixV_fill (p:=p.v) (by first|exact .inl ‹_›|exact .inr ‹_›)]),s0⟩) fun n0=>jOC 4 rfl<|CB ((idxV y p.h e0.policy).isSome) (fun u0=>gCO a0 5 [1] rfl<|sIO m0 (i:Int) i fun v0 _ _ w0 _ x0=>sStF a0 m0 x0 0 i 0 v0 e0.fill w0 (I e0.fill) [I e0.fill] sizeOf3 fun _ y0 z0 a1=>jOO 4 rfl<|sAdd (i:Int) 1<|jOI 2 rfl<|⟨(i+1,(zs.set i e0.fill),B0,D0,C0,y0),od,alB,a1,om,(by rw [List.length_set];exact G0),(by rw [hE,fill_set (pxR_len _ _ _ _ _ _) om,pxR,pxR,tab_succ,pixV_fill (p:=p.v) (by first|exact .inl ‹_›|exact .inr ‹_›)]),z0⟩) fun u0=>(by have L0:=idx_some (i:=y) (n:=p.h) (p:=e0.policy) ‹_›;have K0:=idx_some (i:=x+(i:Int)) (n:=p.w) (p:=e0.policy) ‹_›;have hix:=pl_ix hpo K0 L0;rw [J0] at hix;simp only [Plane.v] at hix;exact gCO a0 8 [2,2] rfl<|sMul ((idxV y p.h e0.policy).getD 0) p.w<|pu1<|sAdd (((idxV y p.h e0.policy).getD 0)*p.w) ((idxV (x+(i:Int)) p.w e0.policy).getD 0)<|sII hp.pix ((((idxV y p.h e0.policy).getD 0)*p.w)+((idxV (x+(i:Int)) p.w e0.policy).getD 0)) fun b0 _ _ b1 c1=>sMp a0 (c1.up 3 rfl) 0 (I b0)<|sIO m0 (i:Int) i fun d1 _ _ e1 _ f1=>sStF a0 m0 f1 0 i 0 d1 b0 e1 (I b0) [I b0] sizeOf3 fun _ g1 h1 i1=>jOO 4 rfl<|sAdd (i:Int) 1<|jOI 2 rfl<|⟨(i+1,(zs.set i b0),B0,D0,C0,g1),od,alB,i1,om,(by rw [List.length_set];exact G0),(by rw [hE,fill_set (pxR_len _ _ _ _ _ _) om,pxR,pxR,tab_succ,pixV_get (p:=p.v) ‹_› ‹_› b1]),h1⟩)
theorem p10_tile (p:Plane) (e0:Edge) (arow:Option Addr) (nrow krow:Nat) (row:List Int) (acol:Option Addr) (ncol kcol:Nat) (col:List Int) (sh:Int) (sh2:Int) (out:Int) (r:Rct) (hp:Plane.Ok [H] p) (hrow:RdT Go.E.encI 1 [H] arow nrow krow row) (hcol:RdT Go.E.encI 1 [H] acol ncol kcol col) (hS:Sat W w (H::F)):
  Calls prog 90 #[.agg (encPlane p).toArray, .agg #[I e0.policy,I e0.fill], .slice arow nrow krow, .slice acol ncol kcol,I sh,I sh2,I out, .agg (encRct r).toArray] w fun e w'=>∃(q:Plane) (c:Int) (G:Chunk),e= .returned (.tuple #[.agg (encPlane q).toArray,I c])/\q.Ok [G]/\(q.v,c)=sepT p.v e0.policy e0.fill row col sh sh2 out r/\Sat W w' (G::H::F):=by
 have S0:=hp.pix.ll
 have F1:=hrow.le;have J0:=hrow.len
 have E1:=hcol.le;have C0:=hcol.len
 refine callsK 209 func90 rfl<|jCO 2 rfl<|sBx hS (encPlane p) fun e1 _ t2=>sBx t2 [I e0.policy,I e0.fill] fun f1 _ u2=>sBx u2 (encRct r) fun g1 _ v2=>sAlloc v2 zeroValue38 fun i1 _ j1=>gOO j1 7 [403] rfl<|cS (p4_valid p ⟨(hp.pix.fl 4)⟩ j1.flat) fun _ q0=>pu2<|SBn 35 (planeOK p.v) (fun a0=>jOO 12 rfl<|sTk q0 0 rfl [I 0,I 0,I 0,nS] fun _ k1=>jOR 5 rfl<|retD k1 0 [I 0,I 0,I 0,nS] (I 1)<|(by have hC:edgC p.v e0.policy e0.fill (sepCode p.v.max_ row col sh sh2 out) p.v.w p.v.h r=1:=edgC_a (fun h=>a0 h.1);have w2:=(k1.drops [0,0,0,0]);have x2:Sat W _ ([]::H::F):=Sat.nilc w2;exact ⟨(⟨0,0,0,⟨none,0,0,[]⟩⟩:Plane),1,_,rfl,⟨RdT.nil (enc:=Go.E.encI) (sz:=1) fR [[]]⟩,(by unfold sepT;rw [okT_c hC om];rfl),x2⟩)) fun a0=>gOO q0 3 [202,3] rfl<|gY<|cS (p3_valid e0 p.max_ q0.flat) fun _ r0=>jOC 4 rfl<|CDn ((e0.policy=3/\0<=e0.fill/\e0.fill<=p.max_)\/(0<=e0.policy/\e0.policy<3/\e0.fill=0)) (fun b0=>jCO 3 rfl<|sTk r0 0 rfl [I 0,I 0,I 0,nS] fun _ l1=>jOR 5 rfl<|retD l1 0 [I 0,I 0,I 0,nS] (I 1)<|(by have hC:edgC p.v e0.policy e0.fill (sepCode p.v.max_ row col sh sh2 out) p.v.w p.v.h r=1:=edgC_a (fun h=>b0 h.2);have y2:=(l1.drops [0,0,0,0]);have z2:Sat W _ ([]::H::F):=Sat.nilc y2;exact ⟨(⟨0,0,0,⟨none,0,0,[]⟩⟩:Plane),1,_,rfl,⟨RdT.nil (enc:=Go.E.encI) (sz:=1) fR [[]]⟩,(by unfold sepT;rw [okT_c hC om];rfl),z2⟩)) fun b0=>?_
 refine gCO r0 12 [3] rfl<|cS (p10_check p.max_ arow nrow krow row acol ncol kcol col sh sh2 out (hrow.fl 4) (hcol.fl 4) r0.flat) fun _ s0=>jOC 9 rfl<|CN (sepCode p.max_ row col sh sh2 out) 0 (fun a3=>jCO 4 rfl<|sTk s0 0 rfl [I 0,I 0,I 0,nS] fun _ m1=>jOR 5 rfl<|retD m1 0 [I 0,I 0,I 0,nS] (I (sepCode p.max_ row col sh sh2 out))<|(by have hC:edgC p.v e0.policy e0.fill (sepCode p.v.max_ row col sh sh2 out) p.v.w p.v.h r=(sepCode p.max_ row col sh sh2 out):=edgC_b ⟨a0,b0⟩ (by simp only [Plane.v] at*;omega);have b3:=(m1.drops [0,0,0,0]);have c3:Sat W _ ([]::H::F):=Sat.nilc b3;exact ⟨(⟨0,0,0,⟨none,0,0,[]⟩⟩:Plane),(sepCode p.max_ row col sh sh2 out),_,rfl,⟨RdT.nil (enc:=Go.E.encI) (sz:=1) fR [[]]⟩,(by unfold sepT;rw [okT_c hC om];rfl),c3⟩)) fun a3=>gCO s0 6 [401] rfl<|cS (p2_empty r s0.flat) fun _ t0=>pu1<|sD 57 (r.x0=0/\r.y0=0/\r.x1=0/\r.y1=0) (fun u0=>jOO 15 rfl<|sTk t0 0 rfl [I 0,I 0,I 0,nS] fun _ n1=>jOR 5 rfl<|retD n1 0 [I 0,I 0,I 0,nS] (I 8)<|(by have F0:=(plane_sz a0).1;unfold sizeP at F0;simp only [Plane.v] at F0;have hC:edgC p.v e0.policy e0.fill (sepCode p.v.max_ row col sh sh2 out) p.v.w p.v.h r=8:=edgC_c ⟨a0,b0⟩ (by simp only [Plane.v] at*;omega) (fun h=>by have h2:=(ins_in (by simp only [Plane.v];omega) (by simp only [Plane.v];omega)).2 h;exact h2.1 u0);have d3:=(n1.drops [0,0,0,0]);have e3:Sat W _ ([]::H::F):=Sat.nilc d3;exact ⟨(⟨0,0,0,⟨none,0,0,[]⟩⟩:Plane),8,_,rfl,⟨RdT.nil (enc:=Go.E.encI) (sz:=1) fR [[]]⟩,(by unfold sepT;rw [okT_c hC om];rfl),e3⟩)) fun u0=>?_
 refine gOO t0 6 [401,3,3] rfl<|gY<|cS (p2_inside r (⟨0,0,p.w,p.h⟩:Rct) t0.flat) fun _ i0=>jOC 4 rfl<|CDn (insP r (⟨0,0,p.w,p.h⟩:Rct)) (fun v0=>jCO 3 rfl<|sTk i0 0 rfl [I 0,I 0,I 0,nS] fun _ o1=>jOR 5 rfl<|retD o1 0 [I 0,I 0,I 0,nS] (I 8)<|(by have F0:=(plane_sz a0).1;unfold sizeP at F0;simp only [Plane.v] at F0;have hC:edgC p.v e0.policy e0.fill (sepCode p.v.max_ row col sh sh2 out) p.v.w p.v.h r=8:=edgC_c ⟨a0,b0⟩ (by simp only [Plane.v] at*;omega) (fun h=>by have h2:=(ins_in (by simp only [Plane.v];omega) (by simp only [Plane.v];omega)).2 h;exact v0 h2.2);have f3:=(o1.drops [0,0,0,0]);have g3:Sat W _ ([]::H::F):=Sat.nilc f3;exact ⟨(⟨0,0,0,⟨none,0,0,[]⟩⟩:Plane),8,_,rfl,⟨RdT.nil (enc:=Go.E.encI) (sz:=1) fR [[]]⟩,(by unfold sepT;rw [okT_c hC om];rfl),g3⟩)) fun v0=>jCC 3 rfl ?_
 have K0:planeOK p.v=true:=a0;have N0:edgeV e0.policy e0.fill p.max_:=b0;have R0:(sepCode p.v.max_ row col sh sh2 out)=0:=by simp only [Plane.v];omega
 have F0:=(plane_sz K0).1;unfold sizeP at F0;simp only [Plane.v] at F0;have Z0:rIn r p.w p.h:=(ins_in om om).1 ⟨u0,v0⟩
 have G1:=Z0;unfold rIn at G1;obtain ⟨J2,L2,K2,W1,V1⟩:=sep_ok R0
 obtain ⟨Wn,hW⟩:∃k:Nat,r.x1-r.x0=(k:Int):=⟨_,(Int.toNat_of_nonneg om).symm⟩;obtain ⟨Hn,hH⟩:∃k:Nat,r.y1-r.y0=(k:Int):=⟨_,(Int.toNat_of_nonneg om).symm⟩
 have H2:1<=Wn/\Wn<=128/\1<=Hn/\Hn<=128:=om;have G2:Hn*Wn<=4096:=by have h1:=rIn_area Z0 (by first|omega|assumption);rw [hW,hH] at h1;have h2:((Hn*Wn:Nat):Int)=(Wn:Int)*(Hn:Int):=(by push_cast;rw [Int.mul_comm]);omega
 have I2:(r.x1-r.x0)*(r.y1-r.y0)=((Hn*Wn:Nat):Int):=by rw [hW,hH];push_cast;rw [Int.mul_comm]
 have C2:(nrow:Int).tdiv 2=(nrow:Int)/2:=Int.tdiv_eq_ediv_of_nonneg om;have D2:(ncol:Int).tdiv 2=(ncol:Int)/2:=Int.tdiv_eq_ediv_of_nonneg om;have U1:=(wCode_len (bnd_t W1).1).2.2;have T1:=(wCode_len (bnd_t V1).1).2.2
 have F2:r.y1-r.y0+(ncol:Int)-1=((Hn+ncol-1:Nat):Int):=by omega
 refine gCO i0 5 [1,1] rfl<|sSub r.x1 r.x0<|gOO i0 4 [1,1] rfl<|sSub r.y1 r.y0<|pu2<|sAlloc i0 zeroValue38 fun j0 _ h3=>sTk h3 0 rfl [I (r.x1-r.x0),I (r.y1-r.y0),I out,nS] fun _ q1=>gOO q1 8 [0] rfl<|sAdd (r.y1-r.y0) (ncol:Int)<|sSub ((r.y1-r.y0)+(ncol:Int)) 1<|sMake (kl:= .i64) (kc:= .i64) (enc:=encIL) (sz:=1) (nb:=24) q1 ⟨⟨none,0,0,[]⟩⟩ ((((r.y1-r.y0)+(ncol:Int))-1)).toNat (((r.y1-r.y0)+(ncol:Int))-1) (om:(((r.y1-r.y0)+(ncol:Int))-1)=((((((r.y1-r.y0)+(ncol:Int))-1)).toNat:Nat):Int)) underlying42 (i:=Tryz.t22) kr fR fun i3 j3 _ k3 l3=>jOC 5 rfl ?_
 have m3:=Sat.nilc l3
 refine jCC 7 rfl ?_
 have n3:=(m3.pick 1 rfl)
 refine loopF [2,3,4,5,6,8,9,15,16,19,88] (γ:=Nat×(List IL)×(Option Addr)×Nat×Nat×Chunk×Chunk) (fun ⟨i,ms,X0,C1,A1,P0,E0⟩ R=>⟨[(89,I (i:Int)),(20, .slice X0 C1 A1)],E0::P0::R,(Hn+ncol-1)-i,i<=Hn+ncol-1/\(ms.length=Hn+ncol-1)/\(ms.map (fun z=>z.l.l)=tabN (fun t=>midR p.v e0.policy e0.fill row sh r.x0 (r.y0-(col.length:Int)/2+(t:Int)) Wn) i++List.replicate (Hn+ncol-1-i) [])/\OwnT encIL 22 1 X0 C1 A1 ms P0/\(∀z∈ms,IL.Ok [E0] z)⟩) (0,(List.replicate ((((r.y1-r.y0)+(ncol:Int))-1)).toNat ⟨⟨none,0,0,[]⟩⟩),(At i3 0),((((r.y1-r.y0)+(ncol:Int))-1)).toNat,((((r.y1-r.y0)+(ncol:Int))-1)).toNat,j3,[]) ⟨(n3.pick 1 rfl),om,(by rw [List.length_replicate];omega),(by rw [List.map_replicate,show (r.y1-r.y0+(ncol:Int)-1).toNat=Hn+ncol-1 by omega];rfl),k3,(fun z hz=>by rw [List.eq_of_mem_replicate hz];exact ⟨RdT.nil (enc:=Go.E.encI) (sz:=1) fR _⟩)⟩ ?_
 rintro ⟨i,ms,X0,C1,A1,P0,E0⟩ ρ _ ⟨c0,hi,X1,J1,D0,H0⟩
 have L1:=D0.ll
 refine jCC 6 rfl<|cD ((i:Int)<((((((r.y1-r.y0)+(ncol:Int))-1)).toNat:Nat):Int)) (fun p3=>?_) (fun p3=>?_)
 ·refine gCO c0 18 [406,205,4] rfl<|sQuo (nrow:Int) 2<|sSub r.x0 ((nrow:Int).tdiv 2)<|gOO c0 4 [4] rfl<|sQuo (ncol:Int) 2<|sSub r.y0 ((ncol:Int).tdiv 2)<|pu1<|sAdd (r.y0-((ncol:Int).tdiv 2)) (i:Int)<|gOO c0 4 [2] rfl<|sAdd (r.x1-r.x0) (nrow:Int)<|sSub ((r.x1-r.x0)+(nrow:Int)) 1<|cZ (p10_pixels p e0 (r.x0-((nrow:Int).tdiv 2)) ((r.y0-((ncol:Int).tdiv 2))+(i:Int)) (((r.x1-r.x0)+(nrow:Int))-1) ⟨(hp.pix.fl 7)⟩ K0 N0 om om c0.flat) ?_
  rintro _ _ ⟨_,_,_,r1,_,rfl,w0,q3,r3⟩
  have t1:=r3.unflat1
  have U0:=w0.ll
  refine gOO t1 9 [3] rfl<|sMake (kl:= .i64) (kc:= .i64) (enc:=Go.E.encI) (sz:=1) (nb:=8) t1 0 ((r.x1-r.x0)).toNat (r.x1-r.x0) (om:(r.x1-r.x0)=((((r.x1-r.x0)).toNat:Nat):Int)) underlying22 (i:=Tryz.t3) kr fR fun k0 u1 _ s3 u3=>sIO D0 (i:Int) i fun v3 _ _ v1 _ w3=>sStF u3 D0 w3 3 i 0 v3 (⟨⟨(At k0 0),((r.x1-r.x0)).toNat,((r.x1-r.x0)).toNat,(List.replicate ((r.x1-r.x0)).toNat 0)⟩⟩:IL) v1 (.slice (At k0 0) (((r.x1-r.x0)).toNat) (((r.x1-r.x0)).toNat)) [.slice (At k0 0) (((r.x1-r.x0)).toNat) (((r.x1-r.x0)).toNat)] sizeOf22 fun _ z0 x3 w1=>jOC 3 rfl ?_
  obtain ⟨m,hm⟩:∃m:IL,m=(⟨⟨(At k0 0),((r.x1-r.x0)).toNat,((r.x1-r.x0)).toNat,(List.replicate ((r.x1-r.x0)).toNat 0)⟩⟩:IL):=⟨_,rfl⟩
  have l0:=x3;rw [<-hm] at l0
  have y3:OwnT Go.E.encI 3 1 m.l.a m.l.n m.l.k (List.replicate ((r.x1-r.x0)).toNat 0) u1:=by rw [hm];exact s3
  have N2:m.l.n=Wn:=by rw [hm];first|rfl|(dsimp only;omega)
  have z1:=set_at (y:=m) v1
  obtain ⟨yk,R1⟩:∃k:Int,k=r.y0-(ncol:Int)/2+(i:Int):=⟨_,rfl⟩
  have W0:r1=pxR p.v e0.policy e0.fill (r.x0-(nrow:Int)/2) yk (Wn+nrow-1):=by rw [q3,C2,D2,<-R1];congr 1;omega
  have O2:r1.length=Wn+nrow-1:=by rw [W0];exact tab_len _ _
  refine jCO 3 rfl<|sIO l0 (i:Int) i fun z3 _ _ a4 b4 _=>?_
  obtain rfl:m=z3:=Option.some.inj (z1.symm.trans a4)
  refine sMp w1 (b4.up 3 rfl) 0 (.slice m.l.a m.l.n m.l.k)<|jOC 5 rfl<|loopF [2,3,4,5,6,8,9,15,16,19,88,89,20,21,22,125] (γ:=Nat×(List Int)×Chunk) (fun ⟨u,zt,B0⟩ R=>⟨[(126,I (u:Int))],B0::R,Wn-u,u<=Wn/\(zt=midR p.v e0.policy e0.fill row sh r.x0 yk u++List.replicate (Wn-u) 0)/\OwnT Go.E.encI 3 1 m.l.a m.l.n m.l.k zt B0⟩) (0,(List.replicate ((r.x1-r.x0)).toNat 0),u1) ⟨w1,om,(by rw [show (r.x1-r.x0).toNat=Wn by omega];rfl),y3⟩ ?_
  rintro ⟨u,zt,B0⟩ ρ _ ⟨a2,hu,S1,A0⟩
  have V0:=A0.len;have T0:=A0.le
  refine jCC 6 rfl<|CD ((u:Int)<(m.l.n:Int)) (fun c4=>jCO 7 rfl<|sAdd (i:Int) 1<|jOI 2 rfl<|(by have d4:=own_setSame (y:=(⟨⟨m.l.a,m.l.n,m.l.k,zt⟩⟩:IL)) l0 rfl;have e4:=(a2.dropAt 1 rfl);exact ⟨(i+1,(ms.set i (⟨⟨m.l.a,m.l.n,m.l.k,zt⟩⟩:IL)),X0,C1,A1,z0,(B0++E0)),od,alB,(Sat.perm (cs':=(B0++E0)::(z0::[(j0, .cells #[I (r.x1-r.x0),I (r.y1-r.y0),I out,nS] 38 (0,0))]::[(i1, .cells #[I 0,I 0,I 0,nS] 38 (0,0))]::[(g1, .cells (encRct r).toArray 45 (0,0))]::[(f1, .cells #[I e0.policy,I e0.fill] 49 (0,0))]::[(e1, .cells (encPlane p).toArray 38 (0,0))]::H::F)) (show Sat W _ (B0::E0::z0::[(j0, .cells #[I (r.x1-r.x0),I (r.y1-r.y0),I out,nS] 38 (0,0))]::[(i1, .cells #[I 0,I 0,I 0,nS] 38 (0,0))]::[(g1, .cells (encRct r).toArray 45 (0,0))]::[(f1, .cells #[I e0.policy,I e0.fill] 49 (0,0))]::[(e1, .cells (encPlane p).toArray 38 (0,0))]::H::F) from e4) (by simp)),om,(by rw [List.length_set];exact X1),(by rw [List.map_set,J1,fill_setG (tab_len _ _) om,tab_succ,S1,show u=Wn by omega,Nat.sub_self,List.replicate_zero,List.append_nil,C0,R1]),d4,(mem_set (fun z hz=>(H0 z hz).of_mem mS) ⟨A0.rd mS⟩)⟩)) fun c4=>jCC 24 rfl<|loopF [2,3,4,5,6,8,9,15,16,19,88,89,20,21,22,125,126,23,129,130] (γ:=Nat×Int) (fun ⟨a,s1⟩ R=>⟨[(131,I (a:Int)),(24,I s1)],R,nrow-a,a<=nrow/\(s1=midS p.v e0.policy e0.fill row (r.x0+(u:Int)) yk a)⟩) (0,0) ⟨a2,om,by rfl⟩ ?_
  rintro ⟨a,s1⟩ ρ _ ⟨m0,ha,O1⟩
  have B2:=mid_part (row:=row) (x:=r.x0+(u:Int)) (y:=yk) K0 N0 R0 (n:=a) om
  refine jCC 6 rfl<|cD ((a:Int)<(nrow:Int)) (fun g4=>jCO 7 rfl<|sIN hrow a fun n0 _ _ a1 h4=>(by have H1:=areW_at U1 a1;refine sMp m0 (h4.up 9 rfl) 0 (I n0)<|jOO 10 rfl<|sAdd (u:Int) (a:Int)<|sII w0 ((u:Int)+(a:Int)) fun d0 _ _ i4 j4=>?_;have N1:d0=pixV p.v e0.policy e0.fill (r.x0+(u:Int)+(a:Int)-(row.length:Int)/2) yk:=(by have h:=i4;rw [W0,pxR,tab_at om] at h;rw [<-Option.some.inj h];exact pix_eq om rfl);have A2:=pix_bd K0 N0 (x:=r.x0+(u:Int)+(a:Int)-(row.length:Int)/2) (y:=yk);rw [<-N1] at A2;have Z1:=wmul_bd (v:=d0) (B:=4294967296) H1 (by simp only [Plane.v] at*;omega) (by decide);exact sMp m0 (j4.up 1 rfl) 0 (I d0)<|sMul n0 d0<|sAdd s1 (n0*d0)<|jOO 5 rfl<|sAdd (a:Int) 1<|jOI 2 rfl<|⟨(a+1,(s1+(n0*d0))),od,alB,m0,om,(by rw [mid_succ a1,<-O1,<-N1])⟩)) fun g4=>?_
  refine jCC 5 rfl ?_
  obtain ⟨k4,t6,u6,b2,b1,c2,v6⟩:=OwnT.eN l0 i
  obtain rfl:m=k4:=Option.some.inj (z1.symm.trans b2)
  obtain ⟨l4,w6,x6,d2,m4,e2,n4⟩:=OwnT.eN A0 u
  exact drawF m0 [7,9] (fq 3 0 (b1.up 3 rfl)<|fn) [0,1,2,4,5,6,3,7,8,9] fun _ o4=>wV 2<|wI c2<|wV 3<|wL 0<|wO rfl<|cS (p7_shift s1 sh o4.flat) fun _ f2=>nilO ⟨⟨.inr ((b1.up 3 rfl).cell f2 (k:=0) rfl),trivial⟩,(wI e2<|wO rfl<|sStF f2 A0 n4 0 u 0 l4 (shiftV s1 sh) d2 (I (shiftV s1 sh)) [I (shiftV s1 sh)] sizeOf3 fun _ p4 q4 r4=>nA<|wN<|jXO 3 rfl<|sAdd (u:Int) 1<|jOI 2 rfl<|⟨(u+1,(zt.set u (shiftV s1 sh)),p4),od,alB,r4,om,(by rw [S1,fill_set (midR_len _ _ _ _ _ _ _ _) om,midR,midR,tab_succ,midV,J0,<-show a=nrow by omega,<-O1]),q4⟩)⟩
 refine jCC 6 rfl ?_
 have Y1:ms.map (fun z=>z.l.l)=tabN (fun t=>midR p.v e0.policy e0.fill row sh r.x0 (r.y0-(col.length:Int)/2+(t:Int)) Wn) (Hn+ncol-1):=by rw [J1,show i=Hn+ncol-1 by omega,Nat.sub_self,List.replicate_zero,List.append_nil]
 refine gCO c0 5 [2,2] rfl<|sMul (r.x1-r.x0) (r.y1-r.y0)<|sMake0 (kl:= .i64) (kc:= .i64) (enc:=Go.E.encI) (sz:=1) (nb:=8) c0 (((r.x1-r.x0)*(r.y1-r.y0))).toNat ((r.x1-r.x0)*(r.y1-r.y0)) (om:((r.x1-r.x0)*(r.y1-r.y0))=(((((r.x1-r.x0)*(r.y1-r.y0))).toNat:Nat):Int)) underlying22 (i:=Tryz.t3) kr fR fun g2 s4 _ t4 u4=>pu1<|tWk u4 3 rfl 3 (.slice (At g2 0) 0 ((((r.x1-r.x0)*(r.y1-r.y0))).toNat)) fun _ i2=>jOC 4 rfl ?_
 obtain ⟨f,hf⟩:∃f:Int->Int->Int,f=fun i j=>sepX p.v e0.policy e0.fill row col sh sh2 out (r.x0+i) (r.y0+j):=⟨_,rfl⟩
 refine gCC i2 7 [3] rfl<|loopF [3,5,6,16,19,20,166] (γ:=Nat×(List Int)×SO) (fun ⟨i,zs,G0,M0,L0,Q0⟩ R=>⟨[(167,I (i:Int))],Q0::E0::P0::[(j0, .cells #[I (r.x1-r.x0),I (r.y1-r.y0),I out, .slice G0 M0 L0] 38 (0,0))]::R,Hn-i,i<=Hn/\(zs=gridN Wn f (i*Wn))/\OwnT Go.E.encI 3 1 G0 M0 L0 zs Q0⟩) (0,[],(At g2 0),0,(((r.x1-r.x0)*(r.y1-r.y0))).toNat,s4) ⟨i2,om,(by rw [Nat.zero_mul];rfl),t4⟩ ?_
 rintro ⟨i,zs,G0,M0,L0,Q0⟩ ρ _ ⟨o0,hi,hE,I0⟩
 have M1:=I0.ll
 refine jCC 6 rfl<|CD ((i:Int)<(r.y1-r.y0)) (fun v4=>gCO o0 8 [403] rfl<|sTk o0 4 rfl [I (r.x1-r.x0),I (r.y1-r.y0),I out, .slice G0 M0 L0] fun _ j2=>jOR 4 rfl<|retD j2 4 [I (r.x1-r.x0),I (r.y1-r.y0),I out, .slice G0 M0 L0] (I 0)<|(by have E2:zs=gridN Wn f (Hn*Wn):=(by rw [hE,show i=Hn by omega]);have hC:edgC p.v e0.policy e0.fill (sepCode p.v.max_ row col sh sh2 out) p.v.w p.v.h r=0:=edgC_ok K0 N0 R0 Z0;exact ⟨(⟨(r.x1-r.x0),(r.y1-r.y0),out,⟨G0,M0,L0,zs⟩⟩:Plane),0,_,rfl,⟨(I0.rdAt (cs:=[Q0]) 0 rfl)⟩,(by unfold sepT;rw [okT_0 hC,mk_pl Z0 hW hH (hf▸E2)];rfl),(j2.drops [1,1,1,1,1,1,1])⟩)) fun v4=>gCC o0 18 [3] rfl<|loopF [3,5,6,16,19,20,166,167,27,171] (γ:=Nat×(List Int)×SO) (fun ⟨j,zt,Y0,O0,B1,B0⟩ R=>⟨[(172,I (j:Int))],B0::E0::P0::[(j0, .cells #[I (r.x1-r.x0),I (r.y1-r.y0),I out, .slice Y0 O0 B1] 38 (0,0))]::R,Wn-j,j<=Wn/\(zt=gridN Wn f (i*Wn+j))/\OwnT Go.E.encI 3 1 Y0 O0 B1 zt B0⟩) (0,zs,G0,M0,L0,Q0) ⟨o0,om,(by rw [Nat.add_zero];exact hE),I0⟩ ?_
 rintro ⟨j,zt,Y0,O0,B1,B0⟩ ρ _ ⟨k2,hj,D1,A0⟩
 have V0:=A0.len;have T0:=A0.le
 have Q2:zt.length=i*Wn+j:=by rw [D1,grid_len]
 have M2:i*Wn+j<=Hn*Wn:=by have h1:=Nat.mul_le_mul_right Wn (show i+1<=Hn by omega);rw [Nat.add_mul,Nat.one_mul] at h1;omega
 refine jCC 6 rfl<|CD ((j:Int)<(r.x1-r.x0)) (fun x4=>jCO 7 rfl<|sAdd (i:Int) 1<|jOI 2 rfl<|⟨(i+1,zt,Y0,O0,B1,B0),od,alB,k2,om,(by rw [Nat.add_mul,Nat.one_mul,D1,show j=Wn by omega]),A0⟩) fun x4=>jCC 24 rfl<|loopF [3,5,6,16,19,20,166,167,27,171,172,28,175,176] (γ:=Nat×Int) (fun ⟨a,s2⟩ R=>⟨[(177,I (a:Int)),(29,I s2)],R,ncol-a,a<=ncol/\(s2=sepS p.v e0.policy e0.fill row col sh (r.x0+(j:Int)) (r.y0+(i:Int)) a)⟩) (0,0) ⟨k2,om,by rfl⟩ ?_
 rintro ⟨a,s2⟩ ρ _ ⟨h0,ha,P1⟩
 have B2:=sep_part (row:=row) (col:=col) (x:=r.x0+(j:Int)) (y:=r.y0+(i:Int)) K0 N0 R0 (n:=a) om
 refine jCC 6 rfl<|CD ((a:Int)<(ncol:Int)) (fun y4=>jCC 5 rfl<|drawF h0 [4,6,7,8,10] (fb 1 3 3 1<|fn) [0,2,3,5,1,4,6,7,8,9,10] fun _ z4=>wV 4<|wL 0<|wO rfl<|cS (p7_shift s2 sh2 z4.flat) fun _ l2=>nZ l2 [3]<|wO rfl<|cS (p7_clamp (shiftV s2 sh2) out l2.flat) fun _ m2=>nZ m2 [3]<|wO rfl<|sBK m2 #[I (clampV (shiftV s2 sh2) out)] 3 fun _ _ n2=>nZ n2 [4]<|wO rfl<|sApp (nb:=8) n2 A0 1 (RdT.blk (enc:=Go.E.encI) (sz:=1) (xs:=[(clampV (shiftV s2 sh2) out)]) fR 1 0 rfl rfl rfl om) underlying22 (i:=Tryz.t3) kr fR fun o2 q2 a5 _ b5 c5=>nA<|wV 1<|wO rfl<|tWk c5 4 rfl 3 (.slice o2 (O0+1) q2) fun _ d5=>nA<|wN<|jXO 3 rfl<|sAdd (j:Int) 1<|jOI 2 rfl<|⟨(j+1,(zt++[(clampV (shiftV s2 sh2) out)]),o2,(O0+1),q2,a5),od,alB,(d5.dropAt 0 rfl),om,(by rw [<-Nat.add_assoc,grid_succ om,<-D1,hf];dsimp only;unfold sepX;rw [C0,<-show a=ncol by omega,<-P1]),b5⟩) fun y4=>jCO 7 rfl<|sIN hcol a fun p0 _ _ c1 f5=>?_
 have H1:=areW_at T1 c1
 refine sMp h0 (f5.up 8 rfl) 0 (I p0)<|jOO 10 rfl<|sAdd (i:Int) (a:Int)<|sIO D0 ((i:Int)+(a:Int)) (((i:Int)+(a:Int))).toNat fun f0 _ _ d1 g5 _=>?_
 have Q1:=rows_at Y1 d1 om;have P2:f0.l.n=Wn:=by have h:=congrArg List.length Q1;rw [midR,tab_len,(H0 f0 (List.mem_of_getElem? d1)).l.len] at h;exact h
 refine sMp h0 (g5.up 2 rfl) 0 (.slice f0.l.a f0.l.n f0.l.k)<|pu1<|sII (H0 f0 (List.mem_of_getElem? d1)).l (j:Int) fun g0 _ _ r2 h5=>?_
 rw [Int.toNat_natCast] at r2
 have K1:g0=midV p.v e0.policy e0.fill row sh (r.x0+(j:Int)) (r.y0+(i:Int)+(a:Int)-(col.length:Int)/2):=by have h:=r2;rw [Q1,midR,tab_at om] at h;rw [<-Option.some.inj h];exact mid_eq om
 have I1:=mid_bd (row:=row) (col:=col) (x:=r.x0+(j:Int)) (y:=r.y0+(i:Int)+(a:Int)-(col.length:Int)/2) K0 N0 R0;rw [<-K1] at I1;have Z1:=wmul_bd (v:=g0) (B:=68719476736) H1 I1 (by decide)
 exact sMp h0 (h5.up 1 rfl) 0 (I g0)<|sMul p0 g0<|sAdd s2 (p0*g0)<|jOO 5 rfl<|sAdd (a:Int) 1<|jOI 2 rfl<|⟨(a+1,(s2+(p0*g0))),od,alB,h0,om,(by rw [sep_succ c1,<-P1,<-K1])⟩
end Go.Proofs.YtghcddbhllkbmaaGreat

namespace Go.Proofs.YtghcddbhllkbmaaGreat
open Go Go.E Go.Proofs.Tryz
set_option linter.all false
set_option maxRecDepth 100000
set_option maxHeartbeats 2000000
variable {W w:World} {H:Chunk} {F:List Chunk}
def planeB (q:Plane):Prop:=q.pix.l.length<=64/\∀z∈q.pix.l,numB z
theorem tg_weights {p:Nat} {a:Option Addr} {n k:Nat} {i:Int} {xs:List Int} (hR:RdT Go.E.encI 1 [H] a n k xs) (hi:0<=i/\i<=n) (hS:Sat W w ([(p, .cells #[.slice a n k,I i] 78 (0,0))]::H::F)) (m0:Int) (hm:m0<=64):
  Calls prog 60 #[Pt p 0,I m0] w fun e w'=>∃(az:Option Addr) (nz:Nat) (kz:Nat) (zs:List Int) (G:Chunk),e= .returned (.slice az nz kz)/\(RdT Go.E.encI 1 [G] az nz kz zs)/\((zs.length:Int)=max m0 0/\∀z∈zs,numB z)/\∃i':Int,(0<=i'/\i'<=n)/\Sat W w' ([(p, .cells #[.slice a n k,I i'] 78 (0,0))]::G::H::F):=by
 have B0:=hR.le
 refine callsK 22 func60 rfl<|jCC 17 rfl<|loopF [0,1] (γ:=Nat×Int×(List Int)×SO) (fun ⟨i,x0,zs,j0,g0,y0,e0⟩ R=>⟨[(6,I (i:Int)),(5, .slice j0 g0 y0)],e0::[(p, .cells #[.slice a n k,I x0] 78 (0,0))]::R,m0.toNat-i,i<=m0.toNat/\(∀z∈zs,numB z)/\(zs.length=i)/\(0<=x0/\x0<=n)/\OwnT Go.E.encI 3 1 j0 g0 y0 zs e0⟩) (0,i,[],none,0,0,[]) ⟨(Sat.nilc hS),om,(by intro z hz;cases hz),by rfl,om,(OwnT.nil (enc:=Go.E.encI) (E:=3) (sz:=1) fR)⟩ ?_
 rintro ⟨i,x0,zs,j0,g0,y0,e0⟩ ρ _ ⟨c0,hi,hB,C0,A0,d0⟩
 have z0:=d0.ll
 refine jCC 8 rfl<|CD ((i:Int)<m0) (fun f0=>jCR 12 rfl<|retT [.slice j0 g0 y0]<|⟨_,_,_,zs,e0,rfl,(d0.rdAt (cs:=[e0]) 0 rfl),⟨om,hB⟩,_,om,(c0.pick 1 rfl)⟩) fun f0=>jCO 8 rfl ?_
 have h0:=(c0.pick 1 rfl)
 refine cZ (tape_next (hR.fl 1) om h0.flat1 41 om) ?_
 rintro _ _ ⟨b0,rfl,_,_,_,i0⟩
 refine sSub b0 20<|sBK i0.unflat1 #[I 1,I 2,I (-1),I 0,I (b0-20),I 5] 3 fun _ _ k0=>?_
 have l0:=(k0.pick 1 rfl)
 refine cZ (tape_pick (hR.fl 2) om l0.flat1 (RdT.flat (RdT.blk (enc:=Go.E.encI) (sz:=1) (xs:=[1,2,-1,0,(b0-20),5]) (fun _=>(by rfl)) 6 0 rfl rfl rfl om)) om om) ?_
 rintro _ _ ⟨a0,rfl,n0,o0,_,p0⟩
 have q0:=p0.unflat1
 have h1:(a0:Int)=1\/(a0:Int)=2\/(a0:Int)=(-1)\/(a0:Int)=0\/(a0:Int)=(b0-20)\/(a0:Int)=5:=by simpa using n0
 exact sBK q0 #[I a0] 3 fun _ _ r0=>sApp (nb:=8) r0 d0 3 (RdT.blk (enc:=Go.E.encI) (sz:=1) (xs:=[a0]) fR 1 0 rfl rfl rfl om) underlying22 (i:=Tryz.t3) kr fR fun s0 t0 u0 _ v0 w0=>jOO 6 rfl<|sAdd (i:Int) 1<|jOI 2 rfl<|⟨(i+1,o0,(zs++[a0]),s0,(g0+1),t0,u0),od,alB,((w0.pick 3 rfl).drops [1,2]),om,mem_snoc hB (by unfold numB;omega),by simp;omega,om,v0⟩
theorem tg_edge {p:Nat} {a:Option Addr} {n k:Nat} {i:Int} {xs:List Int} (hR:RdT Go.E.encI 1 [H] a n k xs) (hi:0<=i/\i<=n) (hS:Sat W w ([(p, .cells #[.slice a n k,I i] 78 (0,0))]::H::F)) (mx:Int) (hmx:0<=mx/\mx<=4294967296):
  Calls prog 59 #[Pt p 0,I mx] w fun e w'=>∃(ep:Int) (ef:Int),e= .returned (.agg #[I ep,I ef])/\(numB ep/\numB ef)/\∃i':Int,(0<=i'/\i'<=n)/\Sat W w' ([(p, .cells #[.slice a n k,I i'] 78 (0,0))]::H::F):=by
 have j0:=hR.le
 refine callsK 20 func59 rfl<|jCO 2 rfl<|sAlloc hS zeroValue49 fun _ _ g0=>jOO 5 rfl ?_
 have h0:=(g0.pick 1 rfl)
 refine cZ (tape_next (hR.fl 1) om h0.flat1 4 om) ?_
 rintro _ _ ⟨a0,rfl,_,_,_,i0⟩
 refine pu1<|sAlloc i0.unflat1 zeroValue49 fun _ _ k0=>sTk k0 0 rfl [I a0,I 0] fun _ c0=>gOC c0 10 [0] rfl<|CE a0 3 (fun l0=>gCO c0 5 [200] rfl<|sTk c0 2 rfl [I a0,I 0] fun _ d0=>jOR 3 rfl<|retN (vs:=[.agg #[I a0,I 0]]) rfl (.cons (.cell _ _ _ _ kr (lvA d0 2 0 [I a0,I 0] (isAgg49 _) (sizeOf49 _) rfl rfl rfl)) .nil)<|⟨a0,0,rfl,by unfold numB;omega,_,om,(d0.drops [0,1])⟩) fun l0=>?_
 have hd:=tdiv_bd (a:=mx) (b:=2) (A:=4294967296) om om
 refine jCO 4 rfl<|sQuo mx 2<|sBK c0 #[I 0,I mx,I (mx.tdiv 2)] 3 fun _ _ n0=>?_
 have o0:=(n0.pick 2 rfl)
 refine cZ (tape_pick (hR.fl 3) om o0.flat1 (RdT.flat (RdT.blk (enc:=Go.E.encI) (sz:=1) (xs:=[0,mx,(mx.tdiv 2)]) (fun _=>(by rfl)) 3 0 rfl rfl rfl om)) om om) ?_
 rintro _ _ ⟨b0,rfl,p0,_,_,q0⟩
 have r0:=q0.unflat1
 have i1:(b0:Int)=0\/(b0:Int)=mx\/(b0:Int)=(mx.tdiv 2):=by simpa using p0
 exact pu1<|sT r0 2 1 (I b0) [I b0] #[I a0,I b0] sizeOf3 fun _ e0=>gOO e0 5 [202] rfl<|sTk e0 3 rfl [I a0,I b0] fun _ f0=>jOR 3 rfl<|retN (vs:=[.agg #[I a0,I b0]]) rfl (.cons (.cell _ _ _ _ kr (lvA f0 3 0 [I a0,I b0] (isAgg49 _) (sizeOf49 _) rfl rfl rfl)) .nil)<|⟨a0,b0,rfl,by unfold numB;omega,_,om,(f0.drops [1,1,1])⟩
theorem tg_sized {p:Nat} {a:Option Addr} {n k:Nat} {i:Int} {xs:List Int} (hR:RdT Go.E.encI 1 [H] a n k xs) (hi:0<=i/\i<=n) (hS:Sat W w ([(p, .cells #[.slice a n k,I i] 78 (0,0))]::H::F)) (w0:Int) (h0:Int) (hwh:(1<=w0/\w0<=8)/\1<=h0/\h0<=8):
  Calls prog 19 #[Pt p 0,I w0,I h0] w fun e w'=>∃(q:Plane) (G:Chunk),e= .returned (.agg (encPlane q).toArray)/\(Plane.Ok [G] q)/\(q.w=w0/\q.h=h0/\planeOK q.v=true/\planeB q)/\∃i':Int,(0<=i'/\i'<=n)/\Sat W w' ([(p, .cells #[.slice a n k,I i'] 78 (0,0))]::G::H::F):=by
 have N0:=hR.le
 have M0:=mul_bd (a:=w0) (b:=h0) (A:=8) (B:=8) om om
 refine callsK 46 func19 rfl<|jCO 2 rfl<|sAlloc hS zeroValue38 fun b2 _ y0=>jOC 2 rfl<|cutF y0 2 [0,6] (γ:=Nat×Int×(Option Addr)×Chunk×Int) (fun ⟨b7,mx,a1,c1,F0⟩ R=>⟨[(7,Pt b7 0)],[(p, .cells #[.slice a n k,I F0] 78 (0,0))]::[(b7, .cells #[I w0,I h0,I mx, .slice a1 (((w0*h0)).toNat) (((w0*h0)).toNat)] 38 (0,0))]::c1::[(b2, .cells #[I 0,I 0,I 0,nS] 38 (0,0))]::R,0,(0<=F0/\F0<=n)/\(1<=mx/\mx<=65535)/\OwnT Go.E.encI 3 1 a1 (((w0*h0)).toNat) (((w0*h0)).toNat) (List.replicate (((w0*h0)).toNat) 0) c1⟩) ?_ ?_
 rotate_left
 ·rintro ⟨b7,mx,a1,c1,F0⟩ ρ _ ⟨c2,K0,O0,J0⟩
  refine jCC 7 rfl<|loopF [0,6,7] (γ:=Nat×Int×(List Int)×SO) (fun ⟨i,G0,zs,C0,B0,D0,E0⟩ R=>⟨[(8,I (i:Int))],E0::[(p, .cells #[.slice a n k,I G0] 78 (0,0))]::[(b7, .cells #[I w0,I h0,I mx, .slice C0 B0 D0] 38 (0,0))]::R,(((w0*h0)).toNat)-i,i<=((w0*h0)).toNat/\(∀z∈zs,0<=z/\z<=mx)/\(zs.length=((w0*h0)).toNat)/\(0<=G0/\G0<=n)/\OwnT Go.E.encI 3 1 C0 B0 D0 zs E0⟩) (0,F0,(List.replicate (((w0*h0)).toNat) 0),a1,((w0*h0)).toNat,((w0*h0)).toNat,c1) ⟨(c2.pick 2 rfl),om,(by intro z hz;have:=List.eq_of_mem_replicate hz;omega),by simp,om,J0⟩ ?_
  rintro ⟨i,G0,zs,C0,B0,D0,E0⟩ ρ _ ⟨o0,hi,hB,P0,L0,A0⟩
  have I0:=A0.ll
  refine gCC o0 10 [2] rfl<|CD ((i:Int)<(B0:Int)) (fun e2=>gCO o0 8 [402] rfl<|sTk o0 3 rfl [I w0,I h0,I mx, .slice C0 B0 D0] fun _ z0=>jOR 3 rfl<|retN (vs:=[.agg #[I w0,I h0,I mx, .slice C0 B0 D0]]) rfl (.cons (.cell _ _ _ _ kr (lvA z0 3 0 [I w0,I h0,I mx, .slice C0 B0 D0] (isAgg38 _) (sizeOf38 _) rfl rfl rfl)) .nil)<|(by have H0:planeOK ⟨w0,h0,mx,zs⟩=true:=planeOK_t (p:=⟨w0,h0,mx,zs⟩) ⟨by unfold sizeP;dsimp only;omega,by dsimp only;omega⟩ (List.all_eq_true.2 (fun z hz=>decide_eq_true (hB z hz)));exact ⟨(⟨w0,h0,mx,⟨C0,B0,D0,zs⟩⟩:Plane),E0,rfl,⟨(A0.rdAt (cs:=[E0]) 0 rfl)⟩,⟨rfl,rfl,H0,by dsimp only;omega,fun z hz=>by have:=hB z hz;unfold numB;omega⟩,_,om,((z0.pick 1 rfl).drops [2,2])⟩)) fun e2=>jCC 4 rfl ?_
  obtain ⟨g2,n7,o7,b1,h2,d1,i2⟩:=OwnT.eN A0 i
  refine drawF o0 [8,13,16,17,19] (fb 1 2 3 1<|fb 6 2 2 1<|fb 11 2 2 1<|fb 15 2 2 1<|fn) [0,2,3,4,5,9,10,14,1,6,7,11,12,15,8,13,16,17,18,19] fun _ j2=>wV 8<|wL 0<|wL 1<|wAdd mx 1<|wL 2<|wAdd mx 1<|wL 3<|wO rfl ?_
  have k2:=(j2.pick 1 rfl)
  refine cZ (tape_next (hR.fl 3) om k2.flat1 (mx+1) om) ?_
  rintro _ _ ⟨q0,rfl,_,_,_,l2⟩
  have e1:=l2.unflat1
  refine nZ e1 [2,2,2,2]<|wO rfl<|cZ (tape_next (hR.fl 3) om e1.flat1 (mx+1) om) ?_
  rintro _ _ ⟨r0,rfl,_,_,_,m2⟩
  have f1:=m2.unflat1
  refine nZ f1 [2,2,2,2]<|wO rfl<|sBK f1 #[I q0,I r0,I mx,I 0] 3 fun _ _ g1=>nZ g1 [3,3,3]<|wO rfl ?_
  have n2:=(g1.pick 1 rfl)
  refine cZ (tape_pick (hR.fl 4) om n2.flat1 (RdT.flat (RdT.blk (enc:=Go.E.encI) (sz:=1) (xs:=[q0,r0,mx,0]) (fun _=>(by rfl)) 4 0 rfl rfl rfl om)) om om) ?_
  rintro _ _ ⟨b0,rfl,o2,q2,_,r2⟩
  have h1:=r2.unflat1
  have b8:(b0:Int)=q0\/(b0:Int)=r0\/(b0:Int)=mx\/(b0:Int)=0:=by simpa using o2
  exact nZ h1 [3,3,3]<|wI d1<|wO rfl<|sStF h1 A0 i2 2 i 0 g2 b0 b1 (I b0) [I b0] sizeOf3 fun _ s2 t2 u2=>nA<|wN<|jXO 4 rfl<|sAdd (i:Int) 1<|jOI 2 rfl<|⟨(i+1,q2,(zs.set i b0),C0,B0,D0,s2),od,alB,((u2.pick 2 rfl).dropAt 2 rfl),om,mem_set hB om,by simp;omega,om,t2⟩
 refine drawG y0 [3,4,8,10,11] (fn) (pS [0,1,2,5,6,7]<| .f3 3 8 10 (.f3 4 8 10 (.fk 8 10 (pS [9]<| .ef 10<| .ef 11<| .fin) (.ef 8<|pS [9]<| .ef 11<| .fin)) (.fk 4 10 (pS [9]<| .ef 10<| .ef 11<| .fin) (.ef 4<|pS [9]<| .ef 11<| .fin)) (.fk 4 8 (.ef 8<|pS [9]<| .ef 11<| .fin) (.ef 4<|pS [9]<| .ef 11<| .fin))) (.fk 3 10 (.fk 4 10 (pS [9]<| .ef 10<| .ef 11<| .fin) (.ef 4<|pS [9]<| .ef 11<| .fin)) (.ef 3<| .ef 4<|pS [9]<| .ef 11<| .fin)) (.fk 3 8 (.fk 4 8 (.ef 8<|pS [9]<| .ef 11<| .fin) (.ef 4<|pS [9]<| .ef 11<| .fin)) (.ef 3<| .ef 4<|pS [9]<| .ef 11<| .fin))) fun _ s0=>qV 5<|qMul w0 h0<|qF3 ?_ ?_ ?_
 ·refine qO rfl<|sBK s0 #[I 255,I 255,I 65535,I 1,I 7] 3 fun _ _ t0=>nA<|qF3 ?_ ?_ ?_
  ·refine qO rfl ?_
   have w2:=(t0.pick 2 rfl)
   refine cZ (tape_pick (hR.fl 2) om w2.flat1 (RdT.flat (RdT.blk (enc:=Go.E.encI) (sz:=1) (xs:=[255,255,65535,1,7]) (fun _=>(by rfl)) 5 0 rfl rfl rfl om)) om om) ?_
   rintro _ _ ⟨a0,rfl,x2,i1,_,y2⟩
   have j1:=y2.unflat1
   have h8:(a0:Int)=255\/(a0:Int)=255\/(a0:Int)=65535\/(a0:Int)=1\/(a0:Int)=7:=by simpa using x2
   refine nA<|qF ?_ ?_
   ·exact qO rfl<|sMake (kl:= .i64) (kc:= .i64) (enc:=Go.E.encI) (sz:=1) (nb:=8) j1 0 ((w0*h0)).toNat (w0*h0) (om:(w0*h0)=((((w0*h0)).toNat:Nat):Int)) underlying22 (i:=Tryz.t3) kr fR fun k1 z2 _ a3 b3=>nA<|qV 1<|qO rfl<|sAlloc b3 zeroValue38 fun c3 _ d3=>nA<|qO rfl<|sTk d3 0 rfl [I w0,I h0,I a0, .slice (At k1 0) (((w0*h0)).toNat) (((w0*h0)).toNat)] fun _ e3=>nA<|qN<|jXI 0 rfl<|⟨(c3,a0,(At k1 0),z2,i1),alB,((e3.pick 2 rfl).dropAt 3 rfl),om,om,a3⟩
   exact qO rfl<|sAlloc j1 zeroValue38 fun h3 _ i3=>nA<|qO rfl<|sMake (kl:= .i64) (kc:= .i64) (enc:=Go.E.encI) (sz:=1) (nb:=8) i3 0 ((w0*h0)).toNat (w0*h0) (om:(w0*h0)=((((w0*h0)).toNat:Nat):Int)) underlying22 (i:=Tryz.t3) kr fR fun l1 j3 _ k3 l3=>nA<|qV 1<|qO rfl<|sTk l3 1 rfl [I w0,I h0,I a0, .slice (At l1 0) (((w0*h0)).toNat) (((w0*h0)).toNat)] fun _ m3=>nA<|qN<|jXI 0 rfl<|⟨(h3,a0,(At l1 0),j3,i1),alB,((m3.picks [1,2]).dropAt 3 rfl),om,om,k3⟩
  ·refine qO rfl<|sMake (kl:= .i64) (kc:= .i64) (enc:=Go.E.encI) (sz:=1) (nb:=8) t0 0 ((w0*h0)).toNat (w0*h0) (om:(w0*h0)=((((w0*h0)).toNat:Nat):Int)) underlying22 (i:=Tryz.t3) kr fR fun p0 m1 _ n1 o1=>nA<|qF ?_ ?_
   rotate_left
   · exact qO rfl<|sAlloc o1 zeroValue38 fun o3 _ p3=>nA<|qO rfl<|(by have q3:=(p3.pick 4 rfl);refine cZ (tape_pick (hR.fl 4) om q3.flat1 (RdT.flat (RdT.blk (enc:=Go.E.encI) (sz:=1) (xs:=[255,255,65535,1,7]) (fun _=>(by rfl)) 5 2 rfl rfl rfl om)) om om) ?_;rintro _ _ ⟨c0,rfl,r3,s3,_,u3⟩;have v3:=u3.unflat1;have s8:(c0:Int)=255\/(c0:Int)=255\/(c0:Int)=65535\/(c0:Int)=1\/(c0:Int)=7:=(by simpa using r3);exact nA<|qV 1<|qO rfl<|sTk v3 1 rfl [I w0,I h0,I c0, .slice (At p0 0) (((w0*h0)).toNat) (((w0*h0)).toNat)] fun _ w3=>nA<|qN<|jXI 0 rfl<|⟨(o3,c0,(At p0 0),m1,s3),alB,(w3.dropAt 3 rfl),om,om,n1⟩)
   refine qO rfl ?_
   have y3:=(o1.pick 3 rfl)
   refine cZ (tape_pick (hR.fl 3) om y3.flat1 (RdT.flat (RdT.blk (enc:=Go.E.encI) (sz:=1) (xs:=[255,255,65535,1,7]) (fun _=>(by rfl)) 5 1 rfl rfl rfl om)) om om) ?_
   rintro _ _ ⟨d0,rfl,z3,a4,_,b4⟩
   have c4:=b4.unflat1
   have w8:(d0:Int)=255\/(d0:Int)=255\/(d0:Int)=65535\/(d0:Int)=1\/(d0:Int)=7:=by simpa using z3
   exact nA<|qV 1<|qO rfl<|sAlloc c4 zeroValue38 fun d4 _ e4=>nA<|qO rfl<|sTk e4 0 rfl [I w0,I h0,I d0, .slice (At p0 0) (((w0*h0)).toNat) (((w0*h0)).toNat)] fun _ f4=>nA<|qN<|jXI 0 rfl<|⟨(d4,d0,(At p0 0),m1,a4),alB,((f4.pick 1 rfl).dropAt 3 rfl),om,om,n1⟩
  refine qO rfl<|sAlloc t0 zeroValue38 fun q1 _ r1=>nA<|qF ?_ ?_
  · exact qO rfl<|(by have h4:=(r1.pick 3 rfl);refine cZ (tape_pick (hR.fl 3) om h4.flat1 (RdT.flat (RdT.blk (enc:=Go.E.encI) (sz:=1) (xs:=[255,255,65535,1,7]) (fun _=>(by rfl)) 5 1 rfl rfl rfl om)) om om) ?_;rintro _ _ ⟨e0,rfl,i4,j4,_,k4⟩;have l4:=k4.unflat1;have c9:(e0:Int)=255\/(e0:Int)=255\/(e0:Int)=65535\/(e0:Int)=1\/(e0:Int)=7:=(by simpa using i4);exact nA<|qO rfl<|sMake (kl:= .i64) (kc:= .i64) (enc:=Go.E.encI) (sz:=1) (nb:=8) l4 0 ((w0*h0)).toNat (w0*h0) (om:(w0*h0)=((((w0*h0)).toNat:Nat):Int)) underlying22 (i:=Tryz.t3) kr fR fun s1 m4 _ n4 o4=>nA<|qV 1<|qO rfl<|sTk o4 2 rfl [I w0,I h0,I e0, .slice (At s1 0) (((w0*h0)).toNat) (((w0*h0)).toNat)] fun _ p4=>nA<|qN<|jXI 0 rfl<|⟨(q1,e0,(At s1 0),m4,j4),alB,((p4.picks [2,2]).dropAt 3 rfl),om,om,n4⟩)
  refine qO rfl<|sMake (kl:= .i64) (kc:= .i64) (enc:=Go.E.encI) (sz:=1) (nb:=8) r1 0 ((w0*h0)).toNat (w0*h0) (om:(w0*h0)=((((w0*h0)).toNat:Nat):Int)) underlying22 (i:=Tryz.t3) kr fR fun t1 r4 _ s4 t4=>nA<|qO rfl ?_
  have u4:=(t4.pick 4 rfl)
  refine cZ (tape_pick (hR.fl 4) om u4.flat1 (RdT.flat (RdT.blk (enc:=Go.E.encI) (sz:=1) (xs:=[255,255,65535,1,7]) (fun _=>(by rfl)) 5 2 rfl rfl rfl om)) om om) ?_
  rintro _ _ ⟨f0,rfl,v4,w4,_,x4⟩
  have y4:=x4.unflat1
  have i9:(f0:Int)=255\/(f0:Int)=255\/(f0:Int)=65535\/(f0:Int)=1\/(f0:Int)=7:=by simpa using v4
  exact nA<|qV 1<|qO rfl<|sTk y4 2 rfl [I w0,I h0,I f0, .slice (At t1 0) (((w0*h0)).toNat) (((w0*h0)).toNat)] fun _ z4=>nA<|qN<|jXI 0 rfl<|⟨(q1,f0,(At t1 0),r4,w4),alB,((z4.picks [2,1]).dropAt 3 rfl),om,om,s4⟩
 ·refine qO rfl<|sMake (kl:= .i64) (kc:= .i64) (enc:=Go.E.encI) (sz:=1) (nb:=8) s0 0 ((w0*h0)).toNat (w0*h0) (om:(w0*h0)=((((w0*h0)).toNat:Nat):Int)) underlying22 (i:=Tryz.t3) kr fR fun n0 u0 _ v0 u1=>nA<|qF ?_ ?_
  rotate_left
  · exact qO rfl<|sAlloc u1 zeroValue38 fun b5 _ c5=>nA<|qO rfl<|sBK c5 #[I 255,I 255,I 65535,I 1,I 7] 3 fun _ _ d5=>nA<|qO rfl<|(by have e5:=(d5.pick 4 rfl);refine cZ (tape_pick (hR.fl 4) om e5.flat1 (RdT.flat (RdT.blk (enc:=Go.E.encI) (sz:=1) (xs:=[255,255,65535,1,7]) (fun _=>(by rfl)) 5 0 rfl rfl rfl om)) om om) ?_;rintro _ _ ⟨g0,rfl,f5,g5,_,h5⟩;have i5:=h5.unflat1;have q9:(g0:Int)=255\/(g0:Int)=255\/(g0:Int)=65535\/(g0:Int)=1\/(g0:Int)=7:=(by simpa using f5);exact nA<|qV 1<|qO rfl<|sTk i5 2 rfl [I w0,I h0,I g0, .slice (At n0 0) (((w0*h0)).toNat) (((w0*h0)).toNat)] fun _ j5=>nA<|qN<|jXI 0 rfl<|⟨(b5,g0,(At n0 0),u0,g5),alB,(j5.dropAt 1 rfl),om,om,v0⟩)
  refine qO rfl<|sBK u1 #[I 255,I 255,I 65535,I 1,I 7] 3 fun _ _ v1=>nA<|qF ?_ ?_
  rotate_left
  · exact qO rfl<|sAlloc v1 zeroValue38 fun l5 _ m5=>nA<|qO rfl<|(by have n5:=(m5.pick 4 rfl);refine cZ (tape_pick (hR.fl 4) om n5.flat1 (RdT.flat (RdT.blk (enc:=Go.E.encI) (sz:=1) (xs:=[255,255,65535,1,7]) (fun _=>(by rfl)) 5 1 rfl rfl rfl om)) om om) ?_;rintro _ _ ⟨i0,rfl,o5,p5,_,q5⟩;have r5:=q5.unflat1;have x9:(i0:Int)=255\/(i0:Int)=255\/(i0:Int)=65535\/(i0:Int)=1\/(i0:Int)=7:=(by simpa using o5);exact nA<|qV 1<|qO rfl<|sTk r5 1 rfl [I w0,I h0,I i0, .slice (At n0 0) (((w0*h0)).toNat) (((w0*h0)).toNat)] fun _ s5=>nA<|qN<|jXI 0 rfl<|⟨(l5,i0,(At n0 0),u0,p5),alB,(s5.dropAt 2 rfl),om,om,v0⟩)
  refine qO rfl ?_
  have u5:=(v1.pick 3 rfl)
  refine cZ (tape_pick (hR.fl 3) om u5.flat1 (RdT.flat (RdT.blk (enc:=Go.E.encI) (sz:=1) (xs:=[255,255,65535,1,7]) (fun _=>(by rfl)) 5 0 rfl rfl rfl om)) om om) ?_
  rintro _ _ ⟨j0,rfl,v5,w5,_,x5⟩
  have y5:=x5.unflat1
  have ba:(j0:Int)=255\/(j0:Int)=255\/(j0:Int)=65535\/(j0:Int)=1\/(j0:Int)=7:=by simpa using v5
  exact nA<|qV 1<|qO rfl<|sAlloc y5 zeroValue38 fun z5 _ a6=>nA<|qO rfl<|sTk a6 0 rfl [I w0,I h0,I j0, .slice (At n0 0) (((w0*h0)).toNat) (((w0*h0)).toNat)] fun _ b6=>nA<|qN<|jXI 0 rfl<|⟨(z5,j0,(At n0 0),u0,w5),alB,((b6.pick 1 rfl).dropAt 2 rfl),om,om,v0⟩
 refine qO rfl<|sAlloc s0 zeroValue38 fun x0 _ w1=>nA<|qF ?_ ?_
 rotate_left
 · exact qO rfl<|sMake (kl:= .i64) (kc:= .i64) (enc:=Go.E.encI) (sz:=1) (nb:=8) w1 0 ((w0*h0)).toNat (w0*h0) (om:(w0*h0)=((((w0*h0)).toNat:Nat):Int)) underlying22 (i:=Tryz.t3) kr fR fun x1 d6 _ e6 f6=>nA<|qO rfl<|sBK f6 #[I 255,I 255,I 65535,I 1,I 7] 3 fun _ _ g6=>nA<|qO rfl<|(by have h6:=(g6.pick 4 rfl);refine cZ (tape_pick (hR.fl 4) om h6.flat1 (RdT.flat (RdT.blk (enc:=Go.E.encI) (sz:=1) (xs:=[255,255,65535,1,7]) (fun _=>(by rfl)) 5 0 rfl rfl rfl om)) om om) ?_;rintro _ _ ⟨k0,rfl,i6,j6,_,k6⟩;have l6:=k6.unflat1;have ka:(k0:Int)=255\/(k0:Int)=255\/(k0:Int)=65535\/(k0:Int)=1\/(k0:Int)=7:=(by simpa using i6);exact nA<|qV 1<|qO rfl<|sTk l6 3 rfl [I w0,I h0,I k0, .slice (At x1 0) (((w0*h0)).toNat) (((w0*h0)).toNat)] fun _ m6=>nA<|qN<|jXI 0 rfl<|⟨(x0,k0,(At x1 0),d6,j6),alB,((m6.picks [3,1]).dropAt 2 rfl),om,om,e6⟩)
 refine qO rfl<|sBK w1 #[I 255,I 255,I 65535,I 1,I 7] 3 fun _ _ y1=>nA<|qF ?_ ?_
 rotate_left
 · exact qO rfl<|sMake (kl:= .i64) (kc:= .i64) (enc:=Go.E.encI) (sz:=1) (nb:=8) y1 0 ((w0*h0)).toNat (w0*h0) (om:(w0*h0)=((((w0*h0)).toNat:Nat):Int)) underlying22 (i:=Tryz.t3) kr fR fun z1 o6 _ p6 q6=>nA<|qO rfl<|(by have r6:=(q6.pick 4 rfl);refine cZ (tape_pick (hR.fl 4) om r6.flat1 (RdT.flat (RdT.blk (enc:=Go.E.encI) (sz:=1) (xs:=[255,255,65535,1,7]) (fun _=>(by rfl)) 5 1 rfl rfl rfl om)) om om) ?_;rintro _ _ ⟨l0,rfl,s6,t6,_,u6⟩;have v6:=u6.unflat1;have ra:(l0:Int)=255\/(l0:Int)=255\/(l0:Int)=65535\/(l0:Int)=1\/(l0:Int)=7:=(by simpa using s6);exact nA<|qV 1<|qO rfl<|sTk v6 3 rfl [I w0,I h0,I l0, .slice (At z1 0) (((w0*h0)).toNat) (((w0*h0)).toNat)] fun _ w6=>nA<|qN<|jXI 0 rfl<|⟨(x0,l0,(At z1 0),o6,t6),alB,((w6.picks [3,1]).dropAt 3 rfl),om,om,p6⟩)
 refine qO rfl ?_
 have y6:=(y1.pick 3 rfl)
 refine cZ (tape_pick (hR.fl 3) om y6.flat1 (RdT.flat (RdT.blk (enc:=Go.E.encI) (sz:=1) (xs:=[255,255,65535,1,7]) (fun _=>(by rfl)) 5 0 rfl rfl rfl om)) om om) ?_
 rintro _ _ ⟨m0,rfl,z6,a7,_,c7⟩
 have d7:=c7.unflat1
 have va:(m0:Int)=255\/(m0:Int)=255\/(m0:Int)=65535\/(m0:Int)=1\/(m0:Int)=7:=by simpa using z6
 exact nA<|qO rfl<|sMake (kl:= .i64) (kc:= .i64) (enc:=Go.E.encI) (sz:=1) (nb:=8) d7 0 ((w0*h0)).toNat (w0*h0) (om:(w0*h0)=((((w0*h0)).toNat:Nat):Int)) underlying22 (i:=Tryz.t3) kr fR fun a2 e7 _ f7 g7=>nA<|qV 1<|qO rfl<|sTk g7 3 rfl [I w0,I h0,I m0, .slice (At a2 0) (((w0*h0)).toNat) (((w0*h0)).toNat)] fun _ h7=>nA<|qN<|jXI 0 rfl<|⟨(x0,m0,(At a2 0),e7,a7),alB,((h7.picks [3,2]).dropAt 3 rfl),om,om,f7⟩
theorem tg_plane {p:Nat} {a:Option Addr} {n k:Nat} {i:Int} {xs:List Int} (hR:RdT Go.E.encI 1 [H] a n k xs) (hi:0<=i/\i<=n) (hS:Sat W w ([(p, .cells #[.slice a n k,I i] 78 (0,0))]::H::F)):
  Calls prog 18 #[Pt p 0] w fun e w'=>∃(q:Plane) (G:Chunk),e= .returned (.agg (encPlane q).toArray)/\(Plane.Ok [G] q)/\((1<=q.w/\q.w<=6)/\(1<=q.h/\q.h<=5)/\planeOK q.v=true/\planeB q)/\∃i':Int,(0<=i'/\i'<=n)/\Sat W w' ([(p, .cells #[.slice a n k,I i'] 78 (0,0))]::G::H::F):=by
 have o0:=hR.le
 refine callsK 11 func18 rfl<|jCO 2 rfl<|sAlloc hS zeroValue38 fun _ _ f0=>jOO 6 rfl ?_
 have g0:=(f0.pick 1 rfl)
 refine cZ (tape_next (hR.fl 1) om g0.flat1 6 om) ?_
 rintro _ _ ⟨c0,rfl,_,_,_,h0⟩
 have i0:=h0.unflat1
 refine sAdd 1 c0<|pu1<|cZ (tape_next (hR.fl 1) om i0.flat1 5 om) ?_
 rintro _ _ ⟨d0,rfl,_,_,_,j0⟩
 have k0:=j0.unflat1
 refine sAdd 1 d0<|cZ (tg_sized (hR.fl 1) om k0.flat1 (1+c0) (1+d0) om) ?_
 rintro _ _ ⟨a0,l0,rfl,m0,b0,_,_,n0⟩
 exact sTk (Sat.unflat2 n0) 2 rfl (encPlane a0) fun _ e0=>jOR 3 rfl<|retN (vs:=[.agg (encPlane a0).toArray]) rfl (.cons (.cell _ _ _ _ kr (lvA e0 2 0 (encPlane a0) (isAgg38 _) (sizeOf38 _) rfl rfl rfl)) .nil)<|⟨a0,l0,rfl,m0,⟨by have h:=b0.1;omega,by have h:=b0.2.1;omega,b0.2.2⟩,_,om,(e0.dropAt 2 rfl)⟩
theorem tg_table {p:Nat} {a:Option Addr} {n k:Nat} {i:Int} {xs:List Int} (hR:RdT Go.E.encI 1 [H] a n k xs) (hi:0<=i/\i<=n) (hS:Sat W w ([(p, .cells #[.slice a n k,I i] 78 (0,0))]::H::F)) (n0:Int) (hn0:1<=n0/\n0<=128):
  Calls prog 61 #[Pt p 0,I n0] w fun e w'=>∃(az:Option Addr) (nz:Nat) (kz:Nat) (zs:List Tap) (G:Chunk),e= .returned (.slice az nz kz)/\(RdT encTap 2 [G] az nz kz zs)/\(∀z∈zs,Tap.Ok [G] z)/\(zs.length<=6/\∀z∈zs,tapB z)/\∃i':Int,(0<=i'/\i'<=n)/\Sat W w' ([(p, .cells #[.slice a n k,I i'] 78 (0,0))]::G::H::F):=by
 have O0:=hR.le
 refine callsK 57 func61 rfl<|jCO 8 rfl<|cZ (tape_next (hR.fl 0) om hS.flat1 6 om) ?_
 rintro _ _ ⟨a0,rfl,_,_,_,h1⟩
 have i1:=h1.unflat1
 refine sAdd 1 a0<|jOO 7 rfl<|sF #[I n0,I (1+a0),I 8] call98 (Calls.mono (r8_linear W _ _ [] n0 (1+a0) 8 i1.flat) ?_)
 rintro _ _ ⟨q0,b0,r0,s0,_,e0,f0,rfl,g0,t0,h0,u0⟩
 refine ⟨_,rfl,?_⟩
 have j1:=u0.unflat2;clear u0
 have J0:=g0.ll
 refine jOO 11 rfl ?_
 have k1:=(j1.pick 2 rfl)
 refine cZ (tape_next (hR.fl 2) om k1.flat1 2 om) ?_
 rintro _ _ ⟨l1,rfl,_,c0,_,m1⟩
 have v0:=m1.unflat1
 refine jOC 3 rfl<|cE l1 0 (fun n1=>(by refine jCO 5 rfl<|sF #[I n0,I (1+a0),I 8] call99 (Calls.mono (r8_box W _ _ [] n0 (1+a0) 8 v0.flat) ?_);rintro _ _ ⟨o1,q1,r1,s1,t1,l0,m0,rfl,o0,u1,w0,x0⟩;exact ⟨_,rfl,(by have y0:=x0.unflat2;clear x0;have K0:=o0.len;have I0:=o0.le;exact jOC 13 rfl<|CE t1 0 (fun v1=>jCR 10 rfl<|retT [.slice q0 b0 r0]<|(by have w1:=(y0.drops [0,0]);have x1:Sat W _ ([(p, .cells #[.slice a n k,I c0] 78 (0,0))]::(f0++e0)::H::F):=Sat.perm (show Sat W _ ([(p, .cells #[.slice a n k,I c0] 78 (0,0))]::f0::e0::H::F) from w1) (by simp [Value.cells]);exact ⟨_,_,_,s0,(f0++e0),rfl,(g0.rd (fun p hp=>by simp [hp])),(fun z hz=>(t0 z hz).of_mem mS),⟨by have h:=h0.1;omega,h0.2⟩,_,om,x1⟩)) fun v1=>jCR 9 rfl<|retT [.slice o1 q1 r1]<|(by have y1:=((y0.pick 2 rfl).drops [3,3]);have z1:Sat W _ ([(p, .cells #[.slice a n k,I c0] 78 (0,0))]::(m0++l0)::H::F):=Sat.perm (show Sat W _ ([(p, .cells #[.slice a n k,I c0] 78 (0,0))]::m0::l0::H::F) from y1) (by simp [Value.cells]);exact ⟨_,_,_,s1,(m0++l0),rfl,(o0.rd (fun p hp=>by simp [hp])),(fun z hz=>(u1 z hz).of_mem mS),⟨by have h:=w0.1;omega,w0.2⟩,_,om,z1⟩))⟩)) fun n1=>?_
 refine jCC 9 rfl ?_
 have a2:=(v0.pick 2 rfl)
 refine loopF [0,1] (γ:=Nat×Int×(List Tap)×(Option Addr)×Nat×Nat×Chunk×Chunk) (fun ⟨i,G0,zs,F0,E0,H0,C0,B0⟩ R=>⟨[(10,I (i:Int)),(6, .slice F0 E0 H0)],B0::C0::[(p, .cells #[.slice a n k,I G0] 78 (0,0))]::R,b0-i,i<=b0/\(∀z∈zs,tapB z)/\(zs.length=b0)/\(zs.length<=6)/\(0<=G0/\G0<=n)/\OwnT encTap 121 2 F0 E0 H0 zs C0/\(∀z∈zs,Tap.Ok [B0] z)⟩) (0,c0,s0,q0,b0,r0,e0,f0) ⟨(a2.pick 2 rfl),om,h0.2,om,by have h:=h0.1;omega,om,g0,t0⟩ ?_
 rintro ⟨i,G0,zs,F0,E0,H0,C0,B0⟩ ρ _ ⟨z0,hi,hB,Q0,P0,N0,A0,D0⟩
 have M0:=A0.ll
 refine jCC 9 rfl<|CD ((i:Int)<(E0:Int)) (fun c2=>jCR 12 rfl<|retT [.slice F0 E0 H0]<|(by have d2:=(z0.pick 2 rfl);have e2:Sat W _ ([(p, .cells #[.slice a n k,I G0] 78 (0,0))]::(B0++C0)::H::F):=Sat.perm (show Sat W _ ([(p, .cells #[.slice a n k,I G0] 78 (0,0))]::B0::C0::H::F) from d2) (by simp [Value.cells]);exact ⟨_,_,_,zs,(B0++C0),rfl,(A0.rd (fun p hp=>by simp [hp])),(fun z hz=>(D0 z hz).of_mem mS),⟨om,hB⟩,_,om,e2⟩)) fun c2=>jCO 7 rfl ?_
 have f2:=(z0.pick 2 rfl)
 refine cZ (tape_next (hR.fl 2) om f2.flat1 4 om) ?_
 rintro _ _ ⟨g2,rfl,_,h2,_,i2⟩
 have a1:=i2.unflat1
 refine jOC 3 rfl<|CE g2 0 (fun j2=>jCO 5 rfl<|sAdd (i:Int) 1<|jOI 2 rfl<|⟨(i+1,h2,zs,F0,E0,H0,C0,B0),od,alB,(a1.picks [2,2]),om,hB,by first|omega|(simp;omega),by first|omega|(simp;omega),om,A0,D0⟩) fun j2=>jCO 5 rfl<|sAdd n0 6<|cZ (tape_next (hR.fl 2) om a1.flat1 (n0+6) om) ?_
 rintro _ _ ⟨d0,rfl,_,_,_,l2⟩
 have m2:=l2.unflat1
 refine sSub d0 4<|pu2<|cZ (tape_next (hR.fl 2) om m2.flat1 4 om) ?_
 rintro _ _ ⟨b1,rfl,_,_,_,n2⟩
 have o2:=n2.unflat1
 refine sAdd 1 b1<|cZ (tg_weights (hR.fl 2) om o2.flat1 (1+b1) om) ?_
 rintro _ _ ⟨i0,j0,k0,c1,d1,rfl,p0,e1,f1,_,q2⟩
 have r2:=q2.unflat2
 have L0:=p0.ll
 exact pu1<|sIO A0 (i:Int) i fun s2 _ _ t2 _ u2=>sStF r2 A0 u2 3 i 0 s2 (⟨(d0-4),⟨i0,j0,k0,c1⟩⟩:Tap) t2 (.agg #[I (d0-4), .slice i0 j0 k0]) [I (d0-4), .slice i0 j0 k0] sizeOf121 fun _ g1 v2 w2=>jOO 5 rfl<|sAdd (i:Int) 1<|jOI 2 rfl<|(by have x2:=(w2.picks [3,3,3]);exact ⟨(i+1,f1,(zs.set i (⟨(d0-4),⟨i0,j0,k0,c1⟩⟩:Tap)),F0,E0,H0,g1,(d1++B0)),od,alB,(Sat.perm (cs':=(d1++B0)::(g1::[(p, .cells #[.slice a n k,I f1] 78 (0,0))]::H::F)) x2 (by simp)),om,mem_set hB ⟨by unfold numB;dsimp only;omega,by have h:=e1.1;dsimp only;omega,e1.2⟩,by first|omega|(simp;omega),by first|omega|(simp;omega),om,v2,(mem_set (fun z hz=>(D0 z hz).of_mem mS) ⟨p0.of_mem mS⟩)⟩)
def opB (o:POp):Prop:=numB o.code/\numB o.arg
theorem tg_ops {p:Nat} {a:Option Addr} {n k:Nat} {i:Int} {xs:List Int} (hR:RdT Go.E.encI 1 [H] a n k xs) (hi:0<=i/\i<=n) (hS:Sat W w ([(p, .cells #[.slice a n k,I i] 78 (0,0))]::H::F)) (two:Bool):
  Calls prog 62 #[Pt p 0, .bool two] w fun e w'=>∃(az:Option Addr) (nz:Nat) (kz:Nat) (zs:List POp) (G:Chunk),e= .returned (.slice az nz kz)/\(RdT encPOp 2 [G] az nz kz zs)/\(zs.length<=9/\∀z∈zs,opB z)/\∃i':Int,(0<=i'/\i'<=n)/\Sat W w' ([(p, .cells #[.slice a n k,I i'] 78 (0,0))]::G::H::F):=by
 have J0:=hR.le
 refine callsK 55 func62 rfl<|jCO 8 rfl<|sBK hS #[I 0,I 0] 75 fun d0 _ f0=>jOC 3 rfl<|cutF f0 2 [0] (γ:=(Option Addr)×Nat×Nat×(List POp)×Chunk×Int) (fun ⟨a1,n1,k1,z1,c1,B0⟩ R=>⟨[(5, .slice a1 n1 k1)],[(p, .cells #[.slice a n k,I B0] 78 (0,0))]::c1::R,0,(0<=B0/\B0<=n)/\OwnT encPOp 75 2 a1 n1 k1 z1 c1/\(z1.length<=3/\∀z∈z1,opB z)⟩) ?_ ?_
 ·refine jCC 5 rfl<|CB two (fun k0=>jCI 1 rfl<|⟨((At d0 0),1,1,[(⟨0,0⟩:POp)],[(d0, .cells #[I 0,I 0] 75 (0,0))],i),alB,(f0.pick 1 rfl),om,(OwnT.blk (enc:=encPOp) (sz:=2) (b:=d0) (c:=#[I 0,I 0]) (E:=75) (xs:=[(⟨0,0⟩:POp)]) fR 1 rfl rfl rfl om),⟨by simp,(by intro z hz;simp at hz;subst hz;(unfold opB numB;dsimp only;omega))⟩⟩) fun k0=>jCO 4 rfl<|sBK f0 #[I 3,I 4,I 5,I 6,I 7,I 8,I 9] 3 fun _ _ n0=>?_
  have o0:=(n0.pick 2 rfl)
  refine cZ (tape_pick (hR.fl 2) om o0.flat1 (RdT.flat (RdT.blk (enc:=Go.E.encI) (sz:=1) (xs:=[3,4,5,6,7,8,9]) (fun _=>(by rfl)) 7 0 rfl rfl rfl om)) om om) ?_
  rintro _ _ ⟨a0,rfl,p0,q0,_,r0⟩
  have s0:=r0.unflat1
  have l3:(a0:Int)=3\/(a0:Int)=4\/(a0:Int)=5\/(a0:Int)=6\/(a0:Int)=7\/(a0:Int)=8\/(a0:Int)=9:=by simpa using p0
  exact pu1<|sBK s0 #[I 1,I 0,I a0,I 0] 75 fun _ _ t0=>sApp (nb:=16) t0 (OwnT.blk (enc:=encPOp) (sz:=2) (b:=d0) (c:=#[I 0,I 0]) (E:=75) (xs:=[(⟨0,0⟩:POp)]) fR 1 rfl rfl rfl om) 3 (RdT.blk (enc:=encPOp) (sz:=2) (xs:=[(⟨1,0⟩:POp),(⟨a0,0⟩:POp)]) fR 2 0 rfl rfl rfl om) underlying51 (i:=Tryz.t75) kr fR fun v0 w0 x0 _ y0 z0=>jOI 2 rfl<|⟨(v0,(1+2),w0,([(⟨0,0⟩:POp)]++[(⟨1,0⟩:POp),(⟨a0,0⟩:POp)]),x0,q0),alB,(z0.drops [0,1]),om,y0,⟨by simp,(by intro z hz;simp at hz;rcases hz with rfl|rfl|rfl<;>(unfold opB numB;dsimp only;omega))⟩⟩
 rintro ⟨a1,n1,k1,z1,c1,B0⟩ ρ _ ⟨d1,G0,F0,I0⟩
 refine jCO 4 rfl<|cZ (tape_next (hR.fl 1) om d1.flat1 4 om) ?_
 rintro _ _ ⟨e1,rfl,_,f1,_,g1⟩
 have h1:=g1.unflat1
 refine jOC 4 rfl<|loopF [0] (γ:=Nat×Int×Int×(List POp)×SO) (fun ⟨u,j,C0,zs,A0,m0,D0,u0⟩ R=>⟨[(6,I j),(5, .slice A0 m0 D0)],u0::[(p, .cells #[.slice a n k,I C0] 78 (0,0))]::R,3-u,u<=3/\(∀z∈zs,opB z)/\(zs.length<=3+2*u)/\((u:Int)+j<=3)/\(0<=C0/\C0<=n)/\OwnT encPOp 75 2 A0 m0 D0 zs u0⟩) (0,e1,f1,z1,a1,n1,k1,c1) ⟨(h1.pick 1 rfl),om,I0.2,om,om,om,F0⟩ ?_
 rintro ⟨u,j,C0,zs,A0,m0,D0,u0⟩ ρ _ ⟨i0,hu,hB,K0,hj,H0,l0⟩
 have E0:=l0.ll
 refine jCC 7 rfl<|CD (j>0) (fun j1=>jCR 12 rfl<|retT [.slice A0 m0 D0]<|⟨_,_,_,zs,u0,rfl,(l0.rdAt (cs:=[u0]) 0 rfl),⟨om,hB⟩,_,om,(i0.pick 1 rfl)⟩) fun j1=>jCO 7 rfl ?_
 have m1:=(i0.pick 1 rfl)
 refine cZ (tape_next (hR.fl 1) om m1.flat1 3 om) ?_
 rintro _ _ ⟨j0,rfl,_,o1,_,q1⟩
 have g0:=q1.unflat1
 refine jOC 9 rfl<|cE j0 0 (fun r1=>?_) (fun r1=>?_)
 rotate_left
 ·refine jCC 6 rfl<|cE j0 1 (fun s1=>?_) (fun s1=>?_)
  rotate_left
  ·exact jCO 3 rfl<|sBK g0 #[I 11,I 0] 75 fun _ _ t1=>sApp (nb:=16) t1 l0 2 (RdT.blk (enc:=encPOp) (sz:=2) (xs:=[(⟨11,0⟩:POp)]) fR 1 0 rfl rfl rfl om) underlying51 (i:=Tryz.t75) kr fR fun u1 v1 w1 _ x1 y1=>jOO 7 rfl<|sSub j 1<|jOI 2 rfl<|⟨(u+1,(j-1),o1,(zs++[(⟨11,0⟩:POp)]),u1,(m0+1),v1,w1),od,alB,((y1.pick 2 rfl).dropAt 1 rfl),om,(by
     intro z hz
     rcases List.mem_append.1 hz with h|h
     ·exact hB z h
     ·simp only [List.mem_cons,List.not_mem_nil,or_false] at h
      subst h;(unfold opB numB;dsimp only;omega)),by simp;omega,om,om,x1⟩
  refine jCO 3 rfl<|cZ (tape_next (hR.fl 1) om g0.flat1 4 om) ?_
  rintro _ _ ⟨h0,rfl,_,b2,_,c2⟩
  exact pu1<|sBK c2.unflat1 #[I 10,I h0] 75 fun _ _ e2=>sApp (nb:=16) e2 l0 2 (RdT.blk (enc:=encPOp) (sz:=2) (xs:=[(⟨10,h0⟩:POp)]) fR 1 0 rfl rfl rfl om) underlying51 (i:=Tryz.t75) kr fR fun f2 g2 h2 _ i2 j2=>jOO 7 rfl<|sSub j 1<|jOI 2 rfl<|⟨(u+1,(j-1),b2,(zs++[(⟨10,h0⟩:POp)]),f2,(m0+1),g2,h2),od,alB,((j2.pick 2 rfl).dropAt 1 rfl),om,(by
    intro z hz
    rcases List.mem_append.1 hz with h|h
    ·exact hB z h
    ·simp only [List.mem_cons,List.not_mem_nil,or_false] at h
     subst h;(unfold opB numB;dsimp only;omega)),by simp;omega,om,om,i2⟩
 refine jCO 4 rfl<|cZ (tape_next (hR.fl 1) om g0.flat1 300 om) ?_
 rintro _ _ ⟨e0,rfl,_,_,_,l2⟩
 refine sSub e0 100<|sBK l2.unflat1 #[I (e0-100),I 0,I 3,I (-2)] 3 fun _ _ n2=>?_
 have o2:=(n2.pick 1 rfl)
 refine cZ (tape_pick (hR.fl 2) om o2.flat1 (RdT.flat (RdT.blk (enc:=Go.E.encI) (sz:=1) (xs:=[(e0-100),0,3,-2]) (fun _=>(by rfl)) 4 0 rfl rfl rfl om)) om om) ?_
 rintro _ _ ⟨c0,rfl,q2,_,_,r2⟩
 have s2:=r2.unflat1
 have p4:(c0:Int)=(e0-100)\/(c0:Int)=0\/(c0:Int)=3\/(c0:Int)=(-2):=by simpa using q2
 refine pu2<|sBK s2 #[I 3,I 4,I 5,I 6,I 7,I 8,I 9] 3 fun _ _ t2=>?_
 have u2:=(t2.pick 1 rfl)
 refine cZ (tape_pick (hR.fl 3) om u2.flat1 (RdT.flat (RdT.blk (enc:=Go.E.encI) (sz:=1) (xs:=[3,4,5,6,7,8,9]) (fun _=>(by rfl)) 7 0 rfl rfl rfl om)) om om) ?_
 rintro _ _ ⟨b0,rfl,v2,w2,_,x2⟩
 have y2:=x2.unflat1
 have u4:(b0:Int)=3\/(b0:Int)=4\/(b0:Int)=5\/(b0:Int)=6\/(b0:Int)=7\/(b0:Int)=8\/(b0:Int)=9:=by simpa using v2
 exact pu1<|sBK y2 #[I 2,I c0,I b0,I 0] 75 fun _ _ z2=>sApp (nb:=16) z2 l0 4 (RdT.blk (enc:=encPOp) (sz:=2) (xs:=[(⟨2,c0⟩:POp),(⟨b0,0⟩:POp)]) fR 2 0 rfl rfl rfl om) underlying51 (i:=Tryz.t75) kr fR fun a3 b3 c3 _ d3 e3=>jOO 7 rfl<|sSub j 1<|jOI 2 rfl<|⟨(u+1,(j-1),w2,(zs++[(⟨2,c0⟩:POp),(⟨b0,0⟩:POp)]),a3,(m0+2),b3,c3),od,alB,((e3.pick 4 rfl).drops [1,2,2]),om,(by
   intro z hz
   rcases List.mem_append.1 hz with h|h
   ·exact hB z h
   ·simp only [List.mem_cons,List.not_mem_nil,or_false] at h
    rcases h with rfl|rfl<;>(unfold opB numB;dsimp only;omega)),by simp;omega,om,om,d3⟩
def stageB (k:Nat) (q:Stage):Prop:=(numB q.kind/\numB q.a/\numB q.b/\numB q.edgePolicy/\numB q.edgeFill/\numB q.kW/\numB q.kH/\numB q.shift/\numB q.shift2/\numB q.bins/\numB q.max_)/\(q.weights.l.length<=64/\∀z∈q.weights.l,numB z)/\(q.row.l.length<=64/\∀z∈q.row.l,numB z)/\(q.col.l.length<=64/\∀z∈q.col.l,numB z)/\(q.x.l.length<=6+k/\∀z∈q.x.l,tapB z)/\(q.y.l.length<=6+k/\∀z∈q.y.l,tapB z)/\(q.ops.l.length<=9+k/\∀z∈q.ops.l,opB z)
theorem zStage_ok {cs:List Chunk}:Stage.Ok cs zStage:=⟨RdT.nil (enc:=Go.E.encI) (sz:=1) (fun _=>rfl) _,RdT.nil (enc:=Go.E.encI) (sz:=1) (fun _=>rfl) _,RdT.nil (enc:=Go.E.encI) (sz:=1) (fun _=>rfl) _,RdT.nil (enc:=encTap) (sz:=2) (fun _=>rfl) _,(fun z hz=>by cases hz),RdT.nil (enc:=encTap) (sz:=2) (fun _=>rfl) _,(fun z hz=>by cases hz),RdT.nil (enc:=encPOp) (sz:=2) (fun _=>rfl) _⟩
theorem nl0 {α:Type} {P:α->Prop} {m:Nat}:([]:List α).length<=m/\∀z∈([]:List α),P z:=⟨by simp,fun z hz=>by cases hz⟩
theorem tg_stage {p:Nat} {a:Option Addr} {n k:Nat} {i:Int} {xs:List Int} (hR:RdT Go.E.encI 1 [H] a n k xs) (hi:0<=i/\i<=n) (hS:Sat W w ([(p, .cells #[.slice a n k,I i] 78 (0,0))]::H::F)) (a0:Int) (s0:Shape) (b0:Int) (hs0:szP s0) (hab:numB a0/\numB b0):
  Calls prog 20 #[Pt p 0,I a0, .agg #[I s0.w,I s0.h,I s0.max_],I b0] w fun e w'=>∃(q:Stage) (G:Chunk),e= .returned (.agg (encStage q).toArray)/\(Stage.Ok [G] q)/\(stageB 0 q)/\(q.a=a0/\(q.b=-1\/(q.b=b0/\0<=b0)))/\∃i':Int,(0<=i'/\i'<=n)/\Sat W w' ([(p, .cells #[.slice a n k,I i'] 78 (0,0))]::G::H::F):=by
 have hle:=hR.le
 have hs1:=hs0;unfold szP at hs1;have hab1:=hab;unfold numB at hab1
 refine callsK 126 func20 rfl<|jCO 2 rfl<|sBox hS (.agg #[I s0.w,I s0.h,I s0.max_]) #[I s0.w,I s0.h,I s0.max_] fun _ _ j4=>sAlloc j4 zeroValue53 fun k4 _ l4=>jOO 5 rfl ?_
 have m4:=(l4.pick 2 rfl)
 refine cX call11 (tape_next (RdT.flat (hR.up 2 (by rfl))) om m4.flat1 6 om) ?_
 rintro _ _ ⟨d0,rfl,_,_,_,n4⟩
 have o4:=n4.unflat1
 refine sAdd 1 d0<|pu2<|cX call11 (tape_next (RdT.flat (hR.up 2 (by rfl))) om o4.flat1 4 om) ?_
 rintro _ _ ⟨e0,rfl,_,_,_,p4⟩
 have q4:=p4.unflat1
 refine pu2<|sAlloc q4 zeroValue53 fun r4 _ s4=>sTl s4 0 (encStage {zStage with kind:=(1+d0),a:=a0,b:=-1,barrier:=((e0:Int)==3)}) sizeOf53 fun _ t4=>jOO 5 rfl<|sBS t4 #[I 255,I 65535,I 15] runUnderlying22 sizeOf3 zeroValue3 fun _ _ u4=>?_
 have v4:=(u4.pick 2 rfl)
 refine cX call58 (tape_pick (RdT.flat (hR.up 4 (by rfl))) om v4.flat1 (RdT.flat (RdT.blk (enc:=Go.E.encI) (sz:=1) (xs:=[255,65535,15]) (fun _=>(by rfl)) 3 0 rfl rfl rfl om)) om om) ?_
 rintro _ _ ⟨c0,rfl,w4,x4,_,y4⟩
 have f0:=y4.unflat1
 have lb:(c0:Int)=255\/(c0:Int)=65535\/(c0:Int)=15:=by simpa using w4
 refine jOC 3 rfl<|cutF f0 5 [8,9] (γ:=Stage×Chunk×Int) (fun ⟨q,G1,itc⟩ R=>⟨[],G1::[(p, .cells #[.slice a n k,I itc] 78 (0,0))]::[(r4, .cells (encStage q).toArray 53 (0,0))]::[(k4, .cells (encStage zStage).toArray 53 (0,0))]::R,0,(0<=itc/\itc<=n)/\Stage.Ok [G1] q/\stageB 0 q/\(q.a=a0/\(q.b=-1\/(q.b=b0/\0<=b0)))⟩) ?_ ?_
 rotate_left
 ·rintro ⟨q,G1,itc⟩ ρ _ ⟨a1,hitc,hqok,hqB,hqab⟩
  exact gCO a1 3 [1802] rfl<|sTl a1 3 (encStage q) sizeOf53 fun _ b1=>jOR 3 rfl<|retN (vs:=[.agg (encStage q).toArray]) rfl (.cons (.cell _ _ _ _ kr (lvA b1 3 0 (encStage q) (isAgg53 _) (sizeOf53 _) rfl rfl rfl)) .nil)<|⟨q,G1,rfl,hqok,hqB,hqab,_,om,((b1.pick 1 rfl).drops [2,2])⟩
 refine gCC f0 13 [2] rfl<|cE (1+d0) 1 (fun a5=>?_) (fun a5=>?_)
 ·refine jCC 1 rfl<|drawG f0 [1,2,4,5,8,12,14,16,18,20,22] (fb 11 4 2 1<|fn) (Plan.sts [0,3,6,7,9,10]<|Plan.sts [11]<| .fk 1 4 (.fk 2 4 (Plan.sts [13]<| .ef 4<| .ef 5<| .ef 8<| .ef 12<| .ef 14<|Plan.sts [15]<| .ef 16<|Plan.sts [17]<| .ef 18<|Plan.sts [19]<| .ef 20<|Plan.sts [21]<| .ef 22<| .fin) (.ef 2<|Plan.sts [13]<| .ef 5<| .ef 8<| .ef 12<| .ef 14<|Plan.sts [15]<| .ef 16<|Plan.sts [17]<| .ef 18<|Plan.sts [19]<| .ef 20<|Plan.sts [21]<| .ef 22<| .fin)) (.ef 1<| .ef 2<|Plan.sts [13]<| .ef 5<| .ef 8<| .ef 12<| .ef 14<|Plan.sts [15]<| .ef 16<|Plan.sts [17]<| .ef 18<|Plan.sts [19]<| .ef 20<|Plan.sts [21]<| .ef 22<| .fin)) fun _ c1=>qU [0,3,6,7,9,10]<|qL 0<|qF ?_ ?_
  rotate_left
  ·refine qO rfl<|sBS c1 #[I 1,I 3,I 2] runUnderlying22 sizeOf3 zeroValue3 fun _ _ d1=>nZ d1 [5]<|qO rfl<|sBS d1 #[I 1,I 3,I 2,I 5] runUnderlying22 sizeOf3 zeroValue3 fun _ _ e1=>nZ e1 [6]<|qO rfl ?_
   have b5:=(e1.pick 2 rfl)
   refine cX call58 (tape_pick (RdT.flat (hR.up 6 (by rfl))) om b5.flat1 (RdT.flat (RdT.blk (enc:=Go.E.encI) (sz:=1) (xs:=[1,3,2,5]) (fun _=>(by rfl)) 4 0 rfl rfl rfl om)) om om) ?_
   rintro _ _ ⟨g0,rfl,c5,_,_,d5⟩
   have f1:=d5.unflat1
   have wb:(g0:Int)=1\/(g0:Int)=3\/(g0:Int)=2\/(g0:Int)=5:=by simpa using c5
   refine nZ f1 [6]<|qU [13]<|qO rfl<|cX call58 (tape_pick (RdT.flat (hR.up 6 (by rfl))) om f1.flat1 (RdT.flat (RdT.blk (enc:=Go.E.encI) (sz:=1) (xs:=[1,3,2]) (fun _=>(by rfl)) 3 1 rfl rfl rfl om)) om om) ?_
   rintro _ _ ⟨j0,rfl,e5,_,_,f5⟩
   have g1:=f5.unflat1
   have ac:(j0:Int)=1\/(j0:Int)=3\/(j0:Int)=2:=by simpa using e5
   refine nZ g1 [6]<|qO rfl<|cX call11 (tape_next (RdT.flat (hR.up 6 (by rfl))) om g1.flat1 4 om) ?_
   rintro _ _ ⟨h1,rfl,_,_,_,g5⟩
   have i1:=g5.unflat1
   refine nZ i1 [6]<|qO rfl<|cX call59 (tg_edge (RdT.flat (hR.up 6 (by rfl))) om i1.flat1 s0.max_ om) ?_
   rintro _ _ ⟨j1,k1,rfl,h5,_,_,i5⟩
   have j5:=i5.unflat1
   unfold numB at h5
   refine nA<|qO rfl<|tW j5 4 6 (I g0) sizeOf3 fun _ k5=>nA<|qU [15]<|qO rfl<|tW k5 4 7 (I j0) sizeOf3 fun _ l5=>nA<|qU [17]<|qO rfl<|tW l5 4 17 (I c0) sizeOf3 fun _ m5=>nA<|qU [19]<|qO rfl<|tW m5 4 11 (I h1) sizeOf3 fun _ n5=>nA<|qU [21]<|qO rfl<|tW n5 4 4 (.agg #[I j1,I k1]) sizeOf49 fun _ l1=>nA<|qN<|jXC 1 rfl ?_
   have hkk:=mul_bd (a:=g0) (b:=j0) (A:=5) (B:=3) om om
   refine gCO l1 6 [4,4] rfl<|sMul g0 j0<|cX call60 (tg_weights (RdT.flat (hR.up 6 (by rfl))) om l1.flat1 (g0*j0) om) ?_
   rintro _ _ ⟨m1,n1,o1,o5,p5,rfl,n0,q1,q5,_,r5⟩
   have s5:=r5.unflat2
   have hn_zs_218:=n0.len;have hl_zs_218:=n0.le
   refine pu1<|tW s5 5 8 (.slice m1 n1 o1) sizeOf22 fun _ t5=>jOI 2 rfl ?_
   exact ⟨(({zStage with kind:=(1+d0),a:=a0,b:=-1,barrier:=((e0:Int)==3),edgePolicy:=j1,edgeFill:=k1,kW:=g0,kH:=j0,weights:=⟨m1,n1,o1,o5⟩,shift:=h1,max_:=c0}:Stage),p5,q5),alB,((t5.pick 1 rfl).drops [2,2,2,4]),om,{zStage_ok with weights:=n0.of_mem mS},⟨(by simp only [numB,zStage];omega),⟨by have h:=q1.1;dsimp only;omega,q1.2⟩,nl0,nl0,nl0,nl0,nl0⟩,⟨rfl,by first|(left;rfl)|(right;exact ⟨rfl,om⟩)⟩⟩
  refine qO rfl<|sBS c1 #[I 1,I 3,I 2,I 5] runUnderlying22 sizeOf3 zeroValue3 fun _ _ o0=>nZ o0 [5]<|qF ?_ ?_
  ·refine qO rfl ?_
   have v5:=(o0.pick 1 rfl)
   refine cX call58 (tape_pick (RdT.flat (hR.up 5 (by rfl))) om v5.flat1 (RdT.flat (RdT.blk (enc:=Go.E.encI) (sz:=1) (xs:=[1,3,2,5]) (fun _=>(by rfl)) 4 0 rfl rfl rfl om)) om om) ?_
   rintro _ _ ⟨h0,rfl,w5,_,_,x5⟩
   have r1:=x5.unflat1
   have vc:(h0:Int)=1\/(h0:Int)=3\/(h0:Int)=2\/(h0:Int)=5:=by simpa using w5
   refine nZ r1 [5]<|qU [13]<|qO rfl<|sBS r1 #[I 1,I 3,I 2] runUnderlying22 sizeOf3 zeroValue3 fun _ _ s1=>nZ s1 [6]<|qO rfl ?_
   have y5:=(s1.pick 1 rfl)
   refine cX call58 (tape_pick (RdT.flat (hR.up 6 (by rfl))) om y5.flat1 (RdT.flat (RdT.blk (enc:=Go.E.encI) (sz:=1) (xs:=[1,3,2]) (fun _=>(by rfl)) 3 0 rfl rfl rfl om)) om om) ?_
   rintro _ _ ⟨k0,rfl,z5,_,_,a6⟩
   have t1:=a6.unflat1
   have bd:(k0:Int)=1\/(k0:Int)=3\/(k0:Int)=2:=by simpa using z5
   refine nZ t1 [6]<|qO rfl<|cX call11 (tape_next (RdT.flat (hR.up 6 (by rfl))) om t1.flat1 4 om) ?_
   rintro _ _ ⟨u1,rfl,_,_,_,b6⟩
   have v1:=b6.unflat1
   refine nZ v1 [6]<|qO rfl<|cX call59 (tg_edge (RdT.flat (hR.up 6 (by rfl))) om v1.flat1 s0.max_ om) ?_
   rintro _ _ ⟨w1,x1,rfl,c6,_,_,d6⟩
   have e6:=d6.unflat1
   unfold numB at c6
   refine nA<|qO rfl<|tW e6 4 6 (I h0) sizeOf3 fun _ f6=>nA<|qU [15]<|qO rfl<|tW f6 4 7 (I k0) sizeOf3 fun _ g6=>nA<|qU [17]<|qO rfl<|tW g6 4 17 (I c0) sizeOf3 fun _ h6=>nA<|qU [19]<|qO rfl<|tW h6 4 11 (I u1) sizeOf3 fun _ i6=>nA<|qU [21]<|qO rfl<|tW i6 4 4 (.agg #[I w1,I x1]) sizeOf49 fun _ y1=>nA<|qN<|jXC 1 rfl ?_
   have hkk:=mul_bd (a:=h0) (b:=k0) (A:=5) (B:=3) om om
   refine gCO y1 6 [4,4] rfl<|sMul h0 k0<|cX call60 (tg_weights (RdT.flat (hR.up 6 (by rfl))) om y1.flat1 (h0*k0) om) ?_
   rintro _ _ ⟨z1,a2,b2,j6,k6,rfl,p0,c2,l6,_,m6⟩
   have n6:=m6.unflat2
   have hn_zs_95:=p0.len;have hl_zs_95:=p0.le
   refine pu1<|tW n6 5 8 (.slice z1 a2 b2) sizeOf22 fun _ o6=>jOI 2 rfl ?_
   exact ⟨(({zStage with kind:=(1+d0),a:=a0,b:=-1,barrier:=((e0:Int)==3),edgePolicy:=w1,edgeFill:=x1,kW:=h0,kH:=k0,weights:=⟨z1,a2,b2,j6⟩,shift:=u1,max_:=c0}:Stage),k6,l6),alB,((o6.pick 1 rfl).drops [2,2,2,4]),om,{zStage_ok with weights:=p0.of_mem mS},⟨(by simp only [numB,zStage];omega),⟨by have h:=c2.1;dsimp only;omega,c2.2⟩,nl0,nl0,nl0,nl0,nl0⟩,⟨rfl,by first|(left;rfl)|(right;exact ⟨rfl,om⟩)⟩⟩
  refine qO rfl<|sBS o0 #[I 1,I 3,I 2] runUnderlying22 sizeOf3 zeroValue3 fun _ _ d2=>nZ d2 [6]<|qO rfl ?_
  have q6:=(d2.pick 2 rfl)
  refine cX call58 (tape_pick (RdT.flat (hR.up 6 (by rfl))) om q6.flat1 (RdT.flat (RdT.blk (enc:=Go.E.encI) (sz:=1) (xs:=[1,3,2,5]) (fun _=>(by rfl)) 4 1 rfl rfl rfl om)) om om) ?_
  rintro _ _ ⟨i0,rfl,r6,_,_,s6⟩
  have e2:=s6.unflat1
  have yd:(i0:Int)=1\/(i0:Int)=3\/(i0:Int)=2\/(i0:Int)=5:=by simpa using r6
  refine nZ e2 [6]<|qU [13]<|qO rfl<|cX call58 (tape_pick (RdT.flat (hR.up 6 (by rfl))) om e2.flat1 (RdT.flat (RdT.blk (enc:=Go.E.encI) (sz:=1) (xs:=[1,3,2]) (fun _=>(by rfl)) 3 0 rfl rfl rfl om)) om om) ?_
  rintro _ _ ⟨l0,rfl,t6,_,_,u6⟩
  have f2:=u6.unflat1
  have ce:(l0:Int)=1\/(l0:Int)=3\/(l0:Int)=2:=by simpa using t6
  refine nZ f2 [6]<|qO rfl<|cX call11 (tape_next (RdT.flat (hR.up 6 (by rfl))) om f2.flat1 4 om) ?_
  rintro _ _ ⟨g2,rfl,_,_,_,v6⟩
  have h2:=v6.unflat1
  refine nZ h2 [6]<|qO rfl<|cX call59 (tg_edge (RdT.flat (hR.up 6 (by rfl))) om h2.flat1 s0.max_ om) ?_
  rintro _ _ ⟨i2,j2,rfl,w6,_,_,x6⟩
  have y6:=x6.unflat1
  unfold numB at w6
  refine nA<|qO rfl<|tW y6 4 6 (I i0) sizeOf3 fun _ z6=>nA<|qU [15]<|qO rfl<|tW z6 4 7 (I l0) sizeOf3 fun _ a7=>nA<|qU [17]<|qO rfl<|tW a7 4 17 (I c0) sizeOf3 fun _ b7=>nA<|qU [19]<|qO rfl<|tW b7 4 11 (I g2) sizeOf3 fun _ c7=>nA<|qU [21]<|qO rfl<|tW c7 4 4 (.agg #[I i2,I j2]) sizeOf49 fun _ k2=>nA<|qN<|jXC 1 rfl ?_
  have hkk:=mul_bd (a:=i0) (b:=l0) (A:=5) (B:=3) om om
  refine gCO k2 6 [4,4] rfl<|sMul i0 l0<|cX call60 (tg_weights (RdT.flat (hR.up 6 (by rfl))) om k2.flat1 (i0*l0) om) ?_
  rintro _ _ ⟨l2,m2,n2,d7,e7,rfl,q0,o2,f7,_,g7⟩
  have h7:=g7.unflat2
  have hn_zs_155:=q0.len;have hl_zs_155:=q0.le
  refine pu1<|tW h7 5 8 (.slice l2 m2 n2) sizeOf22 fun _ i7=>jOI 2 rfl ?_
  exact ⟨(({zStage with kind:=(1+d0),a:=a0,b:=-1,barrier:=((e0:Int)==3),edgePolicy:=i2,edgeFill:=j2,kW:=i0,kH:=l0,weights:=⟨l2,m2,n2,d7⟩,shift:=g2,max_:=c0}:Stage),e7,f7),alB,((i7.pick 1 rfl).drops [2,2,2,4]),om,{zStage_ok with weights:=q0.of_mem mS},⟨(by simp only [numB,zStage];omega),⟨by have h:=o2.1;dsimp only;omega,o2.2⟩,nl0,nl0,nl0,nl0,nl0⟩,⟨rfl,by first|(left;rfl)|(right;exact ⟨rfl,om⟩)⟩⟩
 refine jCC 6 rfl<|cE (1+d0) 2 (fun k7=>?_) (fun k7=>?_)
 ·refine drawF f0 [2,4,7,9,12,14,18,20,22,24,26,28,30] (fb 17 4 2 1<|fn) [0,1,5,6,10,11,13,15,16,17,2,3,4,19,7,8,9,12,14,18,20,21,22,23,24,25,26,27,28,29,30] fun _ l7=>wV 9<|wL 0<|wO rfl<|cX call11 (tape_next (RdT.flat (hR.up 4 (by rfl))) om l7.flat1 4 om) ?_
  rintro _ _ ⟨q2,rfl,_,_,_,m7⟩
  have r2:=m7.unflat1
  refine nZ r2 [4]<|wAdd 1 q2<|wO rfl<|cX call60 (tg_weights (RdT.flat (hR.up 4 (by rfl))) om r2.flat1 (1+q2) om) ?_
  rintro _ _ ⟨s2,t2,u2,n7,o7,rfl,r0,v2,_,_,p7⟩
  have w2:=p7.unflat2
  have hn_zs_242:=r0.len;have hl_zs_242:=r0.le
  refine nZ w2 [5]<|wV 1<|wO rfl<|cX call11 (tape_next (RdT.flat (hR.up 5 (by rfl))) om w2.flat1 4 om) ?_
  rintro _ _ ⟨x2,rfl,_,_,_,q7⟩
  have y2:=q7.unflat1
  refine nZ y2 [5]<|wAdd 1 x2<|wO rfl<|cX call60 (tg_weights (RdT.flat (hR.up 5 (by rfl))) om y2.flat1 (1+x2) om) ?_
  rintro _ _ ⟨z2,a3,b3,r7,s7,rfl,t0,c3,_,_,t7⟩
  have d3:=t7.unflat2
  have hn_zs_261:=t0.len;have hl_zs_261:=t0.le
  refine nZ d3 [6]<|wO rfl<|cX call11 (tape_next (RdT.flat (hR.up 6 (by rfl))) om d3.flat1 3 om) ?_
  rintro _ _ ⟨e3,rfl,_,_,_,u7⟩
  have f3:=u7.unflat1
  refine nZ f3 [6]<|wO rfl<|cX call11 (tape_next (RdT.flat (hR.up 6 (by rfl))) om f3.flat1 4 om) ?_
  rintro _ _ ⟨g3,rfl,_,_,_,v7⟩
  have h3:=v7.unflat1
  refine nZ h3 [6]<|wO rfl<|cX call59 (tg_edge (RdT.flat (hR.up 6 (by rfl))) om h3.flat1 s0.max_ om) ?_
  rintro _ _ ⟨i3,j3,rfl,w7,x7,_,y7⟩
  have z7:=y7.unflat1
  unfold numB at w7
  refine nA<|wO rfl<|tW z7 4 9 (.slice s2 t2 u2) sizeOf22 fun _ a8=>nA<|wV 1<|wO rfl<|tW a8 4 10 (.slice z2 a3 b3) sizeOf22 fun _ b8=>nA<|wV 1<|wO rfl<|tW b8 4 17 (I c0) sizeOf3 fun _ c8=>nA<|wV 1<|wO rfl<|tW c8 4 11 (I e3) sizeOf3 fun _ d8=>nA<|wV 1<|wO rfl<|tW d8 4 12 (I g3) sizeOf3 fun _ e8=>nA<|wV 1<|wO rfl<|tW e8 4 4 (.agg #[I i3,I j3]) sizeOf49 fun _ f8=>nA<|wN<|jXI 1 rfl ?_
  have g8:=((f8.picks [1,2]).drops [3,5])
  exact ⟨(({zStage with kind:=(1+d0),a:=a0,b:=-1,barrier:=((e0:Int)==3),edgePolicy:=i3,edgeFill:=j3,row:=⟨s2,t2,u2,n7⟩,col:=⟨z2,a3,b3,r7⟩,shift:=e3,shift2:=g3,max_:=c0}:Stage),(o7++s7),x7),alB,g8.merge2,om,{zStage_ok with row:=r0.of_mem mS,col:=t0.of_mem mS},⟨(by simp only [numB,zStage];omega),nl0,⟨by have h:=v2.1;dsimp only;omega,v2.2⟩,⟨by have h:=c3.1;dsimp only;omega,c3.2⟩,nl0,nl0,nl0⟩,⟨rfl,by first|(left;rfl)|(right;exact ⟨rfl,om⟩)⟩⟩
 refine jCC 6 rfl<|cE (1+d0) 3 (fun i8=>?_) (fun i8=>?_)
 ·refine drawF f0 [3,7,12,14,16,18,20,22,24] (fb 2 4 0 1<|fb 6 4 1 1<|fb 11 4 2 1<|fn) [0,1,4,5,8,9,10,2,6,11,3,13,7,12,14,15,16,17,18,19,20,21,22,23,24] fun _ j8=>wV 7<|wL 0<|wL 1<|wL 2<|wO rfl<|cX call61 (tg_table (RdT.flat (hR.up 4 (by rfl))) om j8.flat1 s0.w om) ?_
  rintro _ _ ⟨k3,l3,m3,k8,l8,rfl,u0,m8,n3,_,_,n8⟩
  have o3:=n8.unflat2
  have hn_zs_311:=u0.len;have hl_zs_311:=u0.le
  refine nZ o3 [5,5]<|wV 1<|wO rfl<|cX call61 (tg_table (RdT.flat (hR.up 5 (by rfl))) om o3.flat1 s0.h om) ?_
  rintro _ _ ⟨p3,q3,r3,o8,p8,rfl,v0,q8,s3,_,_,r8⟩
  have t3:=r8.unflat2
  have hn_zs_324:=v0.len;have hl_zs_324:=v0.le
  refine nZ t3 [6]<|wO rfl<|cX call59 (tg_edge (RdT.flat (hR.up 6 (by rfl))) om t3.flat1 s0.max_ om) ?_
  rintro _ _ ⟨u3,v3,rfl,s8,t8,_,u8⟩
  have v8:=u8.unflat1
  unfold numB at s8
  refine nA<|wO rfl<|tW v8 4 13 (.slice k3 l3 m3) sizeOf50 fun _ w8=>nA<|wV 1<|wO rfl<|tW w8 4 14 (.slice p3 q3 r3) sizeOf50 fun _ x8=>nA<|wV 1<|wO rfl<|tW x8 4 17 (I c0) sizeOf3 fun _ y8=>nA<|wV 1<|wO rfl<|tW y8 4 11 (I 8) sizeOf3 fun _ z8=>nA<|wV 1<|wO rfl<|tW z8 4 12 (I 8) sizeOf3 fun _ a9=>nA<|wV 1<|wO rfl<|tW a9 4 4 (.agg #[I u3,I v3]) sizeOf49 fun _ b9=>nA<|wN<|jXI 1 rfl ?_
  have c9:=((b9.picks [1,2]).drops [3,5])
  exact ⟨(({zStage with kind:=(1+d0),a:=a0,b:=-1,barrier:=((e0:Int)==3),edgePolicy:=u3,edgeFill:=v3,shift:=8,shift2:=8,x:=⟨k3,l3,m3,k8⟩,y:=⟨p3,q3,r3,o8⟩,max_:=c0}:Stage),(l8++p8),t8),alB,c9.merge2,om,{zStage_ok with x:=u0.of_mem mS,xD:=fun z hz=>(m8 z hz).of_mem mS,y:=v0.of_mem mS,yD:=fun z hz=>(q8 z hz).of_mem mS},⟨(by simp only [numB,zStage];omega),nl0,nl0,nl0,⟨by have h:=n3.1;dsimp only;omega,n3.2⟩,⟨by have h:=s3.1;dsimp only;omega,s3.2⟩,nl0⟩,⟨rfl,by first|(left;rfl)|(right;exact ⟨rfl,om⟩)⟩⟩
 refine jCC 6 rfl<|cE (1+d0) 4 (fun e9=>?_) (fun e9=>?_)
 ·refine jCO 2 rfl<|sBS f0 #[I 4,I 1,I 7] runUnderlying22 sizeOf3 zeroValue3 fun _ _ f9=>?_
  have g9:=(f9.pick 1 rfl)
  refine cX call58 (tape_pick (RdT.flat (hR.up 5 (by rfl))) om g9.flat1 (RdT.flat (RdT.blk (enc:=Go.E.encI) (sz:=1) (xs:=[4,1,7]) (fun _=>(by rfl)) 3 0 rfl rfl rfl om)) om om) ?_
  rintro _ _ ⟨m0,rfl,h9,i9,_,j9⟩
  have k9:=j9.unflat1
  have sg:(m0:Int)=4\/(m0:Int)=1\/(m0:Int)=7:=by simpa using h9
  refine pu1<|tW k9 3 15 (I m0) sizeOf3 fun _ l9=>jOI 2 rfl ?_
  have m9:=(l9.drops [1,1,3])
  exact ⟨(({zStage with kind:=(1+d0),a:=a0,b:=-1,barrier:=((e0:Int)==3),bins:=m0}:Stage),[],i9),alB,(Sat.nilc m9),om,{zStage_ok with},⟨(by simp only [numB,zStage];omega),nl0,nl0,nl0,nl0,nl0,nl0⟩,⟨rfl,by first|(left;rfl)|(right;exact ⟨rfl,om⟩)⟩⟩
 refine jCC 6 rfl<|cE (1+d0) 6 (fun o9=>?_) (fun o9=>?_)
 rotate_left
 ·refine jCI 2 rfl ?_
  have p9:=(f0.drops [1,3])
  exact ⟨(({zStage with kind:=(1+d0),a:=a0,b:=-1,barrier:=((e0:Int)==3)}:Stage),[],x4),alB,(Sat.nilc p9),om,{zStage_ok with},⟨(by simp only [numB,zStage];omega),nl0,nl0,nl0,nl0,nl0,nl0⟩,⟨rfl,by first|(left;rfl)|(right;exact ⟨rfl,om⟩)⟩⟩
 refine jCO 6 rfl<|sD 110 (b0>=0) (fun r9=>?_) (fun r9=>?_)
 rotate_left
 ·refine gOO f0 14 [2] rfl<|cX call62 (tg_ops (RdT.flat (hR.up 4 (by rfl))) om f0.flat1 false) ?_
  rintro _ _ ⟨w3,x3,y3,s9,t9,rfl,w0,z3,u9,_,v9⟩
  have w9:=v9.unflat2
  have hn_zs_422:=w0.len;have hl_zs_422:=w0.le
  refine pu2<|tW w9 3 16 (.slice w3 x3 y3) sizeOf51 fun _ x9=>pu1<|tW x9 3 17 (I c0) sizeOf3 fun _ y9=>jOI 2 rfl ?_
  exact ⟨(({zStage with kind:=(1+d0),a:=a0,b:=-1,barrier:=((e0:Int)==3),ops:=⟨w3,x3,y3,s9⟩,max_:=c0}:Stage),t9,u9),alB,((y9.pick 1 rfl).drops [2,4]),om,{zStage_ok with ops:=w0.of_mem mS},⟨(by simp only [numB,zStage];omega),nl0,nl0,nl0,nl0,nl0,⟨by have h:=z3.1;dsimp only;omega,z3.2⟩⟩,⟨rfl,by first|(left;rfl)|(right;exact ⟨rfl,om⟩)⟩⟩
 refine pu1<|gY<|cX call11 (tape_next (RdT.flat (hR.up 4 (by rfl))) om f0.flat1 2 om) ?_
 rintro _ _ ⟨aa,rfl,_,_,_,ba⟩
 have x0:=ba.unflat1
 refine jOC 4 rfl<|cE aa 0 (fun ca=>?_) (fun ca=>?_)
 rotate_left
 ·refine gCO x0 7 [2] rfl<|cX call62 (tg_ops (RdT.flat (hR.up 4 (by rfl))) om x0.flat1 false) ?_
  rintro _ _ ⟨a4,b4,c4,da,ea,rfl,y0,d4,fa,_,ga⟩
  have ha:=ga.unflat2
  have hn_zs_405:=y0.len;have hl_zs_405:=y0.le
  refine pu2<|tW ha 3 16 (.slice a4 b4 c4) sizeOf51 fun _ ia=>pu1<|tW ia 3 17 (I c0) sizeOf3 fun _ ja=>jOI 2 rfl ?_
  exact ⟨(({zStage with kind:=(1+d0),a:=a0,b:=-1,barrier:=((e0:Int)==3),ops:=⟨a4,b4,c4,da⟩,max_:=c0}:Stage),ea,fa),alB,((ja.pick 1 rfl).drops [2,4]),om,{zStage_ok with ops:=y0.of_mem mS},⟨(by simp only [numB,zStage];omega),nl0,nl0,nl0,nl0,nl0,⟨by have h:=d4.1;dsimp only;omega,d4.2⟩⟩,⟨rfl,by first|(left;rfl)|(right;exact ⟨rfl,om⟩)⟩⟩
 refine jCO 3 rfl<|tW x0 2 2 (I b0) sizeOf3 fun _ e4=>gOO e4 7 [2] rfl<|cX call62 (tg_ops (RdT.flat (hR.up 4 (by rfl))) om e4.flat1 (decide ((b0:Int)>=0))) ?_
 rintro _ _ ⟨f4,g4,h4,la,ma,rfl,z0,i4,na,_,oa⟩
 have pa:=oa.unflat2
 have hn_zs_388:=z0.len;have hl_zs_388:=z0.le
 refine pu2<|tW pa 3 16 (.slice f4 g4 h4) sizeOf51 fun _ qa=>pu1<|tW qa 3 17 (I c0) sizeOf3 fun _ ra=>jOI 2 rfl ?_
 exact ⟨(({zStage with kind:=(1+d0),a:=a0,b:=b0,barrier:=((e0:Int)==3),ops:=⟨f4,g4,h4,la⟩,max_:=c0}:Stage),ma,na),alB,((ra.pick 1 rfl).drops [2,4]),om,{zStage_ok with ops:=z0.of_mem mS},⟨(by simp only [numB,zStage];omega),nl0,nl0,nl0,nl0,nl0,⟨by have h:=i4.1;dsimp only;omega,i4.2⟩⟩,⟨rfl,by first|(left;rfl)|(right;exact ⟨rfl,om⟩)⟩⟩
end Go.Proofs.YtghcddbhllkbmaaGreat
