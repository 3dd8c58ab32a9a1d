import Derived.Test.YtmlhcafjelkjfaaGreatP3Ab
import Derived.WalkKit
import Derived.Deep.Quiet
import Derived.KernelRfl
import Derived.Laws.BytesString
import Derived.Laws.Shifts
import Derived.Laws.IdiomStrings
import Derived.Test.YtmlhcafjelkjfaaGreatProg
import Derived.Laws.IdiomRangeMap
import Derived.Test.YtmlhcafjelkjfaaGreatP3Tr
import Derived.Test.YtmlhcafjelkjfaaGreatP3Rt
namespace Go.Proofs.YtmlhcafjelkjfaaGreat
open Go Go.E Go.Proofs.Tryz
set_option linter.all false
set_option maxRecDepth 100000
set_option maxHeartbeats 2000000
variable {W w:World} {H:Chunk} {F:List Chunk}
theorem rec_0 (p:PlaneV) (x y:Int) (i:Nat):recS p x y i 0=0:=by
  unfold recS
  rw [show (fun a:Nat=>colS p (x+a) y 0)=fun _=>0 from rfl]
  exact sumN_nil i
theorem row_bd {p:PlaneV} (h:planeOK p=true) (x y:Int) (i:Nat) {n:Nat} (hn:n<=128):0<=sumN (fun a=>pixAt p (x+(a:Int)) (y+(i:Int))) n/\sumN (fun a=>pixAt p (x+(a:Int)) (y+(i:Int))) n<=549755813888:=by
  have h1:=sumN_le (f:=fun _=>0) (g:=fun a=>pixAt p (x+(a:Int)) (y+(i:Int))) n (fun k _=>(pixAt_bd h _ _).1)
  have h2:=sumN_bd (f:=fun a=>pixAt p (x+(a:Int)) (y+(i:Int))) (B:=4294967296) n (fun k _=>by have:=pixAt_bd h (x+(k:Int)) (y+(i:Int));have:=pix_mx h;omega)
  rw [sumN_nil] at h1
  omega
theorem r11_mid (p:Plane) (e0:Edge) (t0:Tap) (sh:Int) (k0:Int) (hp:Plane.Ok [H] p) (ht0:Tap.Ok [H] t0) (hpo:planeOK p.v=true) (hev:edgeV e0.policy e0.fill p.max_) (hbt:bndOK t0.v.weights 0 p.max_=true) (hft:(1<=t0.v.weights.length/\t0.v.weights.length<=8)/\(-128<=t0.v.first/\t0.v.first<=256)/\areW t0.v.weights=true) (hS:Sat W w (H::F)):
  Ro prog 174 #[.agg (encPlane p).toArray, .agg #[I e0.policy,I e0.fill], .agg #[I t0.first, .slice t0.weights.a t0.weights.n t0.weights.k],I sh,I k0] (I (tapV p.v e0.policy e0.fill t0.v sh k0)) W w (H::F):=by
 have hl_p_pix:=hp.pix.le;have hn_p_pix:=hp.pix.len
 have hl_t0_weights:=ht0.weights.le;have hn_t0_weights:=ht0.weights.len
 have hsz:=(plane_sz hpo).1;unfold sizeP at hsz;simp only [Plane.v] at hsz;simp only [Tap.v] at hft
 refine callsA 39 func174 rfl<|sR<|sBox hS (.agg (encPlane p).toArray) (encPlane p).toArray fun b0 _ m0=>sBox m0 (.agg #[I e0.policy,I e0.fill]) #[I e0.policy,I e0.fill] fun d0 _ n0=>sBox n0 (.agg #[I t0.first, .slice t0.weights.a t0.weights.n t0.weights.k]) #[I t0.first, .slice t0.weights.a t0.weights.n t0.weights.k] fun f0 _ o0=>pu1<|zS<|pu1<|zQ<|pu1<|nT<|blockE ?_
 refine loopA (γ:=Nat×Int) (fun ⟨a,s1⟩=>[(3,I sh),(4,I k0),(5,Pt b0 0),(6,Pt d0 0),(7,Pt f0 0),(12,I (a:Int)),(11,I s1)]) (fun ⟨a,s1⟩ w=>Sat W w ([(f0, .cells #[I t0.first, .slice t0.weights.a t0.weights.n t0.weights.k] 122 (0,0))]::[(d0, .cells #[I e0.policy,I e0.fill] 49 (0,0))]::[(b0, .cells (encPlane p).toArray 38 (0,0))]::H::F)/\a<=t0.weights.n/\(s1=tapS p.v e0.policy e0.fill t0.v k0 a)) (fun ⟨a,s1⟩=>t0.weights.n-a) (0,0) ⟨o0,om,by rfl⟩ ?_
 rintro ⟨a,s1⟩ ρ _ ⟨a0,ha,hs1⟩
 have hsb:=tap_part hpo hev (t:=t0.v) (k:=k0) hbt (n:=a) (by simp only [Tap.v];omega)
 refine seqE<|sR<|pu2<|sL a0 0 1 (.slice t0.weights.a t0.weights.n t0.weights.k) (isAgg22 _)<|pu2<|nT<|cD ((a:Int)<(t0.weights.n:Int)) (fun p0=>?_) (fun p0=>?_)
 rotate_left
 ·refine exitE<|xB<|tN<|sR<|pu2<|cR call172 (r7_shift s1 sh a0.flat) fun _ q0=>pu1<|zE<|retT [I (shiftV s1 sh)] ?_
  exact ⟨congrArg (fun z=>Ending.returned (I z)) (by unfold tapV;rw [show t0.v.weights.length=a from by simp only [Tap.v];omega,<-hs1]),(q0.drops [0,0,0])⟩
 refine kT<|seqE<|blockE ?_
 obtain ⟨c0,i0,j0,h0,l0,s0⟩:=RdT.elem ht0.weights (a:Int)
 rw [Int.toNat_natCast] at h0
 have hwx:=areW_at hft.2.2 h0
 refine drawE [13] [(2,⟨f0,1,none⟩, .slice t0.weights.a t0.weights.n t0.weights.k),(5,⟨i0,j0,none⟩,I c0),(6,⟨b0,0,none⟩,I p.w),(6,⟨b0,1,none⟩,I p.h),(6,⟨b0,2,none⟩,I p.max_),(6,⟨b0,3,none⟩, .slice p.pix.a p.pix.n p.pix.k),(7,⟨d0,0,none⟩,I e0.policy),(7,⟨d0,1,none⟩,I e0.fill),(9,⟨f0,0,none⟩,I t0.first)] [(true,[0,1,3,8,10,12]),(true,[2]),(true,[4]),(true,[5]),(true,[6]),(true,[7]),(true,[9]),(true,[11]),(false,[13]),(true,[14]),(true,[15]),(true,[16])] rfl kr ⟨cI a0 0, .inr ((l0.up 3 rfl).cell a0 (k:=0) rfl),cI a0 2,cI a0 2,cI a0 2,cI a0 2,cI a0 1,cI a0 1,cI a0 0,trivial⟩ ?_
 have u0:=a0.drew
 refine wU [0,1,3,8,10,12]<|wLd (.slice t0.weights.a t0.weights.n t0.weights.k) 0 isAgg22<|wY (.pointer (some ⟨i0,j0,none⟩)) rfl (fun w _=>Y_idx (a:=t0.weights.a) (i:=(a:Int)) (len:=t0.weights.n) (cap:=t0.weights.k) rfl runUnderlying22 sizeOf3 kr kr s0)<|wLd (I c0) 1 isAgg3<|wY (.agg (encPlane p).toArray) rfl (fun w hF=>Y_loadF rfl (isAgg38 w) (sizeOf38 w) kr rfl ⟨hF 2 _ _ rfl,hF 3 _ _ rfl,hF 4 _ _ rfl,hF 5 _ _ rfl,trivial⟩)<|wY (.agg #[I e0.policy,I e0.fill]) rfl (fun w hF=>Y_loadF rfl (isAgg49 w) (sizeOf49 w) kr rfl ⟨hF 6 _ _ rfl,hF 7 _ _ rfl,trivial⟩)<|wLd (I t0.first) 8 isAgg3<|wAdd t0.first (a:Int)<|wO rfl ?_
 refine cR call170 (r4_pixel p e0 (t0.first+(a:Int)) k0 ⟨(RdT.flat (hp.pix.up 3 (by rfl)))⟩ hpo hev u0.flat) fun _ g0=>?_
 have hpx:=pix_bd hpo hev (x:=(t0.first+(a:Int))) (y:=k0);have hpm:=wmul_bd (v:=(pixV p.v e0.policy e0.fill (t0.first+(a:Int)) k0)) (B:=4294967296) hwx (by simp only [Plane.v] at*;omega) (by decide)
 refine nilO ⟨⟨cI g0 0, .inr ((l0.up 3 rfl).cell g0 (k:=0) rfl),dI,dI,dI,dI,dI,dI,cI g0 0,trivial⟩,?_⟩
 exact wMul c0 (pixV p.v e0.policy e0.fill (t0.first+(a:Int)) k0)<|wAdd s1 (c0*(pixV p.v e0.policy e0.fill (t0.first+(a:Int)) k0))<|wU [16]<|wN<|bN<|tN<|rE<|pu1<|sAdd (a:Int) 1<|pu1<|nT<|⟨(a+1,(s1+(c0*(pixV p.v e0.policy e0.fill (t0.first+(a:Int)) k0)))),od,alA,g0,om,(by rw [tapS_succ (show t0.v.weights[a]?=some c0 from h0),<-hs1];rfl)⟩
theorem r11_tile (p:Plane) (e0:Edge) (ax:Option Addr) (nx kx:Nat) (x:List Tap) (ay:Option Addr) (ny ky:Nat) (y:List Tap) (sh:Int) (sh2:Int) (out:Int) (r:Rct) (hp:Plane.Ok [H] p) (hx:RdT encTap 2 [H] ax nx kx x) (dx:∀z∈x,Tap.Ok [H] z) (hy:RdT encTap 2 [H] ay ny ky y) (dy:∀z∈y,Tap.Ok [H] z) (hS:Sat W w (H::F)):
  Calls prog 132 #[.agg (encPlane p).toArray, .agg #[I e0.policy,I e0.fill], .slice ax nx kx, .slice ay ny ky,I sh,I sh2,I out, .agg (encRct r).toArray] w fun e w'=>∃(q:Plane) (c:Int) (G:Chunk),e= .returned (.tuple #[.agg (encPlane q).toArray,I c])/\q.Ok [G]/\(q.v,c)=resT p.v e0.policy e0.fill (x.map Tap.v) (y.map Tap.v) sh sh2 out r/\Sat W w' (G::H::F):=by
 have hl_p_pix:=hp.pix.le;have hn_p_pix:=hp.pix.len
 have hl_x:=hx.le;have hn_x:=hx.len
 have hl_y:=hy.le;have hn_y:=hy.len
 refine callsA 155 func132 rfl<|sR<|sBox hS (.agg (encPlane p).toArray) (encPlane p).toArray fun b0 _ a2=>sBox a2 (.agg #[I e0.policy,I e0.fill]) #[I e0.policy,I e0.fill] fun c0 _ b2=>sBox b2 (.agg (encRct r).toArray) (encRct r).toArray fun d0 _ c2=>sAlloc c2 zeroValue38 fun f0 _ f1=>pu1<|zQ<|lA f1 3 0 4 (isAgg38 _) (sizeOf38 _)<|cR call76 (r4_valid p ⟨(RdT.flat (hp.pix.up 4 (by rfl)))⟩ f1.flat) fun _ p0=>pu2<|sBn 28 (planeOK p.v) (fun j0=>?_) (fun j0=>?_)
 rotate_left
 ·refine pu6<|zC<|pu1<|sTl p0 0 [I 0,I 0,I 0,nS] sizeOf38 fun _ g1=>pu1<|zR<|retC g1 0 [I 0,I 0,I 0,nS] (I 1) (isAgg38 _) (sizeOf38 _) ?_
  have hC:edgC p.v e0.policy e0.fill (resCode p.v.w p.v.h p.v.max_ (x.map Tap.v) (y.map Tap.v) sh sh2 out) ((x.map Tap.v).length:Int) ((y.map Tap.v).length:Int) r=1:=edgC_a (fun h=>j0 h.1)
  have d2:=(g1.drops [0,0,0,0])
  have e2:Sat W _ ([]::H::F):=Sat.nilc d2
  exact ⟨(⟨0,0,0,⟨none,0,0,[]⟩⟩:Plane),1,_,rfl,⟨RdT.nil (enc:=Go.E.encI) (sz:=1) fR [[]]⟩,(by unfold resT;rw [okT_c hC om];rfl),e2⟩
 refine gY<|lA p0 2 0 2 (isAgg49 _) (sizeOf49 _)<|pu1<|gY<|sL p0 3 2 (I p.max_) (isAgg3 _)<|gY<|cR call122 (r3_valid e0 p.max_ p0.flat) fun _ k0=>pu2<|nT<|cDn ((e0.policy=3/\0<=e0.fill/\e0.fill<=p.max_)\/(0<=e0.policy/\e0.policy<3/\e0.fill=0)) (fun l0=>?_) (fun l0=>?_)
 rotate_left
 ·refine sR<|pu1<|sTl k0 0 [I 0,I 0,I 0,nS] sizeOf38 fun _ i1=>pu1<|zR<|retC i1 0 [I 0,I 0,I 0,nS] (I 1) (isAgg38 _) (sizeOf38 _) ?_
  have hC:edgC p.v e0.policy e0.fill (resCode p.v.w p.v.h p.v.max_ (x.map Tap.v) (y.map Tap.v) sh sh2 out) ((x.map Tap.v).length:Int) ((y.map Tap.v).length:Int) r=1:=edgC_a (fun h=>l0 h.2)
  have f2:=(i1.drops [0,0,0,0])
  have g2:Sat W _ ([]::H::F):=Sat.nilc f2
  exact ⟨(⟨0,0,0,⟨none,0,0,[]⟩⟩:Plane),1,_,rfl,⟨RdT.nil (enc:=Go.E.encI) (sz:=1) fR [[]]⟩,(by unfold resT;rw [okT_c hC om];rfl),g2⟩
 refine kT<|seqE<|sR<|pu1<|sL k0 3 0 (I p.w) (isAgg3 _)<|pu1<|sL k0 3 1 (I p.h) (isAgg3 _)<|pu1<|sL k0 3 2 (I p.max_) (isAgg3 _)<|pu6<|cR call168 (r11_check (⟨p.w,p.h,p.max_⟩:Shape) ax nx kx x ay ny ky y sh sh2 out (RdT.flat (hx.up 4 (by rfl))) (fun z hz=>(dx z hz).of_mem (mem_flat1 4 (by rfl))) (RdT.flat (hy.up 4 (by rfl))) (fun z hz=>(dy z hz).of_mem (mem_flat1 4 (by rfl))) k0.flat) fun _ u0=>pu1<|zS<|pu2<|nT<|cN (resCode (⟨p.w,p.h,p.max_⟩:Shape).w (⟨p.w,p.h,p.max_⟩:Shape).h (⟨p.w,p.h,p.max_⟩:Shape).max_ (x.map Tap.v) (y.map Tap.v) sh sh2 out) 0 (fun i2=>?_) (fun i2=>?_)
 rotate_left
 ·refine sR<|pu2<|sTl u0 0 [I 0,I 0,I 0,nS] sizeOf38 fun _ j1=>pu1<|zR<|retC j1 0 [I 0,I 0,I 0,nS] (I (resCode (⟨p.w,p.h,p.max_⟩:Shape).w (⟨p.w,p.h,p.max_⟩:Shape).h (⟨p.w,p.h,p.max_⟩:Shape).max_ (x.map Tap.v) (y.map Tap.v) sh sh2 out)) (isAgg38 _) (sizeOf38 _) ?_
  have hC:edgC p.v e0.policy e0.fill (resCode p.v.w p.v.h p.v.max_ (x.map Tap.v) (y.map Tap.v) sh sh2 out) ((x.map Tap.v).length:Int) ((y.map Tap.v).length:Int) r=(resCode (⟨p.w,p.h,p.max_⟩:Shape).w (⟨p.w,p.h,p.max_⟩:Shape).h (⟨p.w,p.h,p.max_⟩:Shape).max_ (x.map Tap.v) (y.map Tap.v) sh sh2 out):=edgC_b ⟨j0,l0⟩ (by simp only [Plane.v] at*;omega)
  have j2:=(j1.drops [0,0,0,0])
  have k2:Sat W _ ([]::H::F):=Sat.nilc j2
  exact ⟨(⟨0,0,0,⟨none,0,0,[]⟩⟩:Plane),(resCode (⟨p.w,p.h,p.max_⟩:Shape).w (⟨p.w,p.h,p.max_⟩:Shape).h (⟨p.w,p.h,p.max_⟩:Shape).max_ (x.map Tap.v) (y.map Tap.v) sh sh2 out),_,rfl,⟨RdT.nil (enc:=Go.E.encI) (sz:=1) fR [[]]⟩,(by unfold resT;rw [okT_c hC om];rfl),k2⟩
 refine kT<|seqE<|cutA (γ:=Unit) (fun _=>[(2, .slice ax nx kx),(3, .slice ay ny ky),(4,I sh),(5,I sh2),(6,I out),(8,Pt b0 0),(9,Pt c0 0),(15,Pt d0 0),(16,Pt f0 0),(65, .bool (decide (¬(insP r ⟨0,0,(nx:Int),(ny:Int)⟩/\¬(r.x0=0/\r.y0=0/\r.x1=0/\r.y1=0)))))]) (fun _ w=>Sat W w ([(f0, .cells #[I 0,I 0,I 0,nS] 38 (0,0))]::[(d0, .cells (encRct r).toArray 45 (0,0))]::[(c0, .cells #[I e0.policy,I e0.fill] 49 (0,0))]::[(b0, .cells (encPlane p).toArray 38 (0,0))]::H::F)) ?_ ?_
 ·refine rE<|lA u0 1 0 4 (isAgg45 _) (sizeOf45 _)<|cR call102 (r2_full r u0.flat) fun _ v0=>pu2<|sDn 56 (rvP r/\¬(r.x0=0/\r.y0=0/\r.x1=0/\r.y1=0)) (fun w0=>?_) (fun w0=>?_)
  rotate_left
  ·exact pu9<|nT<|⟨(),⟨kr,kr,kr,kr,kr,kr,kr,kr,kr,(Eq.trans (b:= .bool true) kr (congrArg Value.bool (decide_eq_true (p:=¬(insP r ⟨0,0,(nx:Int),(ny:Int)⟩/\¬(r.x0=0/\r.y0=0/\r.x1=0/\r.y1=0))) (by exact fun h=>w0 ⟨h.1.1,h.2⟩)).symm)),trivial⟩,v0⟩
  exact gY<|lA v0 1 0 4 (isAgg45 _) (sizeOf45 _)<|pu5<|gY<|cR call125 (r2_inside r (⟨0,0,(nx:Int),(ny:Int)⟩:Rct) v0.flat) fun _ l2=>pu2<|nT<|⟨(),⟨kr,kr,kr,kr,kr,kr,kr,kr,kr,(Eq.trans (b:= .bool (!decide (insP r (⟨0,0,(nx:Int),(ny:Int)⟩:Rct)))) kr (congrArg Value.bool (by rw [Bool.eq_iff_iff];simp only [decide_eq_true_eq,beq_iff_eq,bne_iff_ne,ne_eq,Bool.not_eq_true',decide_eq_false_iff_not,gt_iff_lt,ge_iff_le,Bool.and_eq_true,Bool.or_eq_true,Bool.not_eq_eq_eq_not,Bool.not_true,Bool.and_eq_false_imp,beq_eq_false_iff_ne]<;>exact ⟨fun h k=>h k.1,fun h k=>h ⟨k,w0.2⟩⟩))),trivial⟩,l2⟩
 rintro _ ρ _ h0
 refine cD (¬(insP r ⟨0,0,(nx:Int),(ny:Int)⟩/\¬(r.x0=0/\r.y0=0/\r.x1=0/\r.y1=0))) (fun z0=>?_) (fun z0=>?_)
 ·refine sR<|pu1<|sTl h0 0 [I 0,I 0,I 0,nS] sizeOf38 fun _ k1=>pu1<|zR<|retC k1 0 [I 0,I 0,I 0,nS] (I 8) (isAgg38 _) (sizeOf38 _) ?_
  obtain ⟨htx,hty,_⟩:=res_ok (show (resCode p.v.w p.v.h p.v.max_ (x.map Tap.v) (y.map Tap.v) sh sh2 out)=0 by simp only [Plane.v];omega);have hlx:=tapsCode_len htx;have hly:=tapsCode_len hty;have hxl:(x.map Tap.v).length=nx:=by rw [List.length_map];exact hn_x
  have hyl:(y.map Tap.v).length=ny:=by rw [List.length_map];exact hn_y
  have hC:edgC p.v e0.policy e0.fill (resCode p.v.w p.v.h p.v.max_ (x.map Tap.v) (y.map Tap.v) sh sh2 out) ((x.map Tap.v).length:Int) ((y.map Tap.v).length:Int) r=8:=edgC_c ⟨j0,l0⟩ (by simp only [Plane.v] at*;omega) (fun h=>by have h2:=(ins_in om om).2 h;rw [hxl,hyl] at h2;exact z0 ⟨h2.2,h2.1⟩)
  have m2:=(k1.drops [0,0,0,0])
  have n2:Sat W _ ([]::H::F):=Sat.nilc m2
  exact ⟨(⟨0,0,0,⟨none,0,0,[]⟩⟩:Plane),8,_,rfl,⟨RdT.nil (enc:=Go.E.encI) (sz:=1) fR [[]]⟩,(by unfold resT;rw [okT_c hC om];rfl),n2⟩
 refine kT<|seqE ?_
 have hpo:planeOK p.v=true:=j0;have hev:edgeV e0.policy e0.fill p.max_:=l0;have hcc:(resCode p.v.w p.v.h p.v.max_ (x.map Tap.v) (y.map Tap.v) sh sh2 out)=0:=by simp only [Plane.v];omega
 have hsz:=(plane_sz hpo).1;unfold sizeP at hsz;simp only [Plane.v] at hsz
 obtain ⟨htx,hty,hxy,hss,hoo,hbX0,hbY0⟩:=res_ok hcc;obtain ⟨hlx,hfX⟩:=taps_ok htx;obtain ⟨hly,hfY⟩:=taps_ok hty;have hbX:=List.all_eq_true.1 hbX0;have hxl:(x.map Tap.v).length=nx:=by rw [List.length_map];exact hn_x
 have hyl:(y.map Tap.v).length=ny:=by rw [List.length_map];exact hn_y
 have hri:rIn r ((x.map Tap.v).length:Int) ((y.map Tap.v).length:Int):=(ins_in om om).1 (And.comm.1 (by rw [hxl,hyl];exact Classical.not_not.1 z0))
 have hri0:=hri;unfold rIn at hri0
 obtain ⟨Wn,hW⟩:∃k:Nat,r.x1-r.x0=(k:Int):=⟨_,(Int.toNat_of_nonneg om).symm⟩;obtain ⟨Hn,hH⟩:∃k:Nat,r.y1-r.y0=(k:Int):=⟨_,(Int.toNat_of_nonneg om).symm⟩
 have hWb:1<=Wn/\Wn<=128/\1<=Hn/\Hn<=128:=om;have hWH:Hn*Wn<=4096:=by have h1:=rIn_area hri (by first|omega|assumption);rw [hW,hH] at h1;have h2:((Hn*Wn:Nat):Int)=(Wn:Int)*(Hn:Int):=(by push_cast;rw [Int.mul_comm]);omega
 have hWi:(r.x1-r.x0)*(r.y1-r.y0)=((Hn*Wn:Nat):Int):=by rw [hW,hH];push_cast;rw [Int.mul_comm]
 obtain ⟨f,hf⟩:∃f:Int->Int->Int,f=fun i j=>resX p.v e0.policy e0.fill (x.map Tap.v) (y.map Tap.v) sh sh2 out (r.x0+i) (r.y0+j):=⟨_,rfl⟩
 refine rE<|pu1<|sL h0 1 2 (I r.x1) (isAgg3 _)<|pu1<|sL h0 1 0 (I r.x0) (isAgg3 _)<|sSub r.x1 r.x0<|pu1<|sL h0 1 3 (I r.y1) (isAgg3 _)<|pu1<|sL h0 1 1 (I r.y0) (isAgg3 _)<|sSub r.y1 r.y0<|pu1<|cX call16 (r4_new (r.x1-r.x0) (r.y1-r.y0) out (by unfold sizeP;omega) h0.flat) ?_
 rintro _ _ ⟨l1,m1,n1,o2,rfl,a1,p2⟩
 have q2:=p2.unflat1;have hn_az_42:=a1.len;have hl_az_42:=a1.le
 refine pu3<|sAlloc q2 zeroValue38 fun g0 _ r2=>sTl r2 0 [I (r.x1-r.x0),I (r.y1-r.y0),I out, .slice l1 m1 n1] sizeOf38 fun _ o1=>pu1<|zQ<|pu1<|sL o1 3 1 (I r.y0) (isAgg3 _)<|pu1<|nT<|blockE ?_
 have s2:=(o1.pick 1 rfl)
 refine loopA (γ:=Nat×Int×(List Int)×(Option Addr)×Nat×Nat×Chunk) (fun ⟨i,yy,zs,azs,nzs,kzs,czs⟩=>[(2, .slice ax nx kx),(3, .slice ay ny ky),(4,I sh),(5,I sh2),(6,I out),(8,Pt b0 0),(9,Pt c0 0),(15,Pt d0 0),(16,Pt f0 0),(19,Pt g0 0),(21,I yy)]) (fun ⟨i,yy,zs,azs,nzs,kzs,czs⟩ w=>Sat W w (czs::[(g0, .cells #[I (r.x1-r.x0),I (r.y1-r.y0),I out, .slice azs nzs kzs] 38 (0,0))]::[(f0, .cells #[I 0,I 0,I 0,nS] 38 (0,0))]::[(d0, .cells (encRct r).toArray 45 (0,0))]::[(c0, .cells #[I e0.policy,I e0.fill] 49 (0,0))]::[(b0, .cells (encPlane p).toArray 38 (0,0))]::H::F)/\i<=Hn/\(yy=r.y0+(i:Int))/\(zs=gridN Wn f (i*Wn)++List.replicate (Hn*Wn-i*Wn) 0)/\OwnT Go.E.encI 3 1 azs nzs kzs zs czs) (fun ⟨i,yy,zs,azs,nzs,kzs,czs⟩=>Hn-i) (0,r.y0,(List.replicate ((r.x1-r.x0)*(r.y1-r.y0)).toNat 0),l1,m1,n1,o2) ⟨s2,om,om,(by rw [hWi,Int.toNat_natCast,Nat.zero_mul];rfl),a1⟩ ?_
 rintro ⟨i,yy,zs,azs,nzs,kzs,czs⟩ ρ _ ⟨m0,hi,hyy,hE,hOzs⟩
 have hn_zs:=hOzs.len;have hl_zs:=hOzs.le
 refine seqE<|sR<|pu2<|sL m0 3 3 (I r.y1) (isAgg3 _)<|pu1<|nT<|cD (yy<r.y1) (fun t2=>?_) (fun t2=>?_)
 rotate_left
 ·refine exitE<|xB<|tN<|sR<|lA m0 1 0 4 (isAgg38 _) (sizeOf38 _)<|sTl m0 2 [I (r.x1-r.x0),I (r.y1-r.y0),I out, .slice azs nzs kzs] sizeOf38 fun _ p1=>pu1<|zE<|retC p1 2 [I (r.x1-r.x0),I (r.y1-r.y0),I out, .slice azs nzs kzs] (I 0) (isAgg38 _) (sizeOf38 _) ?_
  have hz9:zs=gridN Wn f (Hn*Wn):=by rw [hE,show i=Hn by omega,Nat.sub_self,List.replicate_zero,List.append_nil]
  have hC:edgC p.v e0.policy e0.fill (resCode p.v.w p.v.h p.v.max_ (x.map Tap.v) (y.map Tap.v) sh sh2 out) ((x.map Tap.v).length:Int) ((y.map Tap.v).length:Int) r=0:=edgC_ok hpo hev hcc hri
  exact ⟨(⟨(r.x1-r.x0),(r.y1-r.y0),out,⟨azs,nzs,kzs,zs⟩⟩:Plane),0,_,rfl,⟨(hOzs.rdAt (cs:=[czs]) 0 rfl)⟩,(by unfold resT;rw [okT_0 hC,mk_pl hri hW hH (hf▸hz9)];rfl),(p1.drops [1,1,1,1,1])⟩
 refine kT<|seqE<|blockE<|sR<|pu1<|sL m0 3 0 (I r.x0) (isAgg3 _)<|pu1<|nT<|blockE ?_
 refine loopA (γ:=Nat×Int×(List Int)×(Option Addr)×Nat×Nat×Chunk) (fun ⟨j,xx,zt,azt,nzt,kzt,czt⟩=>[(2, .slice ax nx kx),(3, .slice ay ny ky),(4,I sh),(5,I sh2),(6,I out),(8,Pt b0 0),(9,Pt c0 0),(15,Pt d0 0),(16,Pt f0 0),(19,Pt g0 0),(21,I yy),(22,I xx)]) (fun ⟨j,xx,zt,azt,nzt,kzt,czt⟩ w=>Sat W w (czt::[(g0, .cells #[I (r.x1-r.x0),I (r.y1-r.y0),I out, .slice azt nzt kzt] 38 (0,0))]::[(f0, .cells #[I 0,I 0,I 0,nS] 38 (0,0))]::[(d0, .cells (encRct r).toArray 45 (0,0))]::[(c0, .cells #[I e0.policy,I e0.fill] 49 (0,0))]::[(b0, .cells (encPlane p).toArray 38 (0,0))]::H::F)/\j<=Wn/\(xx=r.x0+(j:Int))/\(zt=gridN Wn f (i*Wn+j)++List.replicate (Hn*Wn-(i*Wn+j)) 0)/\OwnT Go.E.encI 3 1 azt nzt kzt zt czt) (fun ⟨j,xx,zt,azt,nzt,kzt,czt⟩=>Wn-j) (0,r.x0,zs,azs,nzs,kzs,czs) ⟨m0,om,om,(by rw [Nat.add_zero];exact hE),hOzs⟩ ?_
 rintro ⟨j,xx,zt,azt,nzt,kzt,czt⟩ ρ _ ⟨b1,hj,hxx,hE2,hOzt⟩
 have hn_zt:=hOzt.len;have hl_zt:=hOzt.le
 have hzl2:zt.length=Hn*Wn:=by rw [hE2,List.length_append,grid_len,List.length_replicate];have h1:=Nat.mul_le_mul_right Wn (show i+1<=Hn by omega);rw [Nat.add_mul,Nat.one_mul] at h1;omega
 have hij:i*Wn+j<=Hn*Wn:=by have h1:=Nat.mul_le_mul_right Wn (show i+1<=Hn by omega);rw [Nat.add_mul,Nat.one_mul] at h1;omega
 have hij2:i*Wn+Wn<=Hn*Wn:=by have h1:=Nat.mul_le_mul_right Wn (show i+1<=Hn by omega);rw [Nat.add_mul,Nat.one_mul] at h1;omega
 have hpr:(yy-r.y0)*(r.x1-r.x0)=((i*Wn:Nat):Int):=by rw [show yy-r.y0=(i:Int) by omega,hW];push_cast;rfl
 refine seqE<|sR<|pu2<|sL b1 3 2 (I r.x1) (isAgg3 _)<|pu1<|nT<|cD (xx<r.x1) (fun v2=>?_) (fun v2=>?_)
 rotate_left
 ·refine exitE<|xB<|bN<|tN<|rE<|pu1<|sAdd yy 1<|pu1<|nT ?_
  exact ⟨(i+1,(yy+1),zt,azt,nzt,kzt,czt),od,alA,b1,om,om,(by rw [Nat.add_mul,Nat.one_mul,hE2,show j=Wn by omega]),hOzt⟩
 refine kT<|seqE<|blockE<|seqE ?_
 obtain ⟨t9,ht9⟩:=at_some (xs:=y) hn_y (k:=yy.toNat) om;have hym:=map_at (f:=Tap.v) ht9;have htm:=List.mem_of_getElem? hym;have hbt:=List.all_eq_true.1 hbY0 _ htm;have hft:=hfY _ htm;have hta:tapAt (y.map Tap.v) yy=t9.v:=tapAt_eq hym;simp only [Tap.v] at hft
 have hnw:=(dy t9 (List.mem_of_getElem? ht9)).weights.len;have hlw:=(dy t9 (List.mem_of_getElem? ht9)).weights.le
 obtain ⟨t8,ht8⟩:=at_some (xs:=x) hn_x (k:=xx.toNat) om;have hxm:=map_at (f:=Tap.v) ht8;have hxmm:=List.mem_of_getElem? hxm;have hxa:tapAt (x.map Tap.v) xx=t8.v:=tapAt_eq hxm;have hbxu:=hbX _ hxmm;have hfxu:=hfX _ hxmm
 refine rE<|pu1<|zQ<|pu1<|nT<|blockE ?_
 refine loopA (γ:=Nat×Int) (fun ⟨k,s1⟩=>[(2, .slice ax nx kx),(3, .slice ay ny ky),(4,I sh),(5,I sh2),(6,I out),(8,Pt b0 0),(9,Pt c0 0),(15,Pt d0 0),(16,Pt f0 0),(19,Pt g0 0),(21,I yy),(22,I xx),(24,I (k:Int)),(23,I s1)]) (fun ⟨k,s1⟩ w=>Sat W w (czt::[(g0, .cells #[I (r.x1-r.x0),I (r.y1-r.y0),I out, .slice azt nzt kzt] 38 (0,0))]::[(f0, .cells #[I 0,I 0,I 0,nS] 38 (0,0))]::[(d0, .cells (encRct r).toArray 45 (0,0))]::[(c0, .cells #[I e0.policy,I e0.fill] 49 (0,0))]::[(b0, .cells (encPlane p).toArray 38 (0,0))]::H::F)/\k<=t9.weights.n/\(s1=resS p.v e0.policy e0.fill t8.v t9.v sh k)) (fun ⟨k,s1⟩=>t9.weights.n-k) (0,0) ⟨b1,om,by rfl⟩ ?_
 rintro ⟨k,s1⟩ ρ _ ⟨a0,hk,hs1⟩
 have hsb:=res_part hpo hev hcc hxmm htm (n:=k) (by simp only [Tap.v];omega)
 refine seqE<|sR<|pu3<|sIdx hy yy runUnderlying50 sizeOf122 fun w2 _ _ x2 y2=>?_
 obtain rfl:t9=w2:=Option.some.inj (ht9.symm.trans x2)
 refine pu1<|sLp a0 (y2.up 6 rfl) 1 (.slice t9.weights.a t9.weights.n t9.weights.k) (isAgg22 _)<|pu2<|nT<|cD ((k:Int)<(t9.weights.n:Int)) (fun z2=>?_) (fun z2=>?_)
 rotate_left
 ·refine exitE<|xB<|tN ?_
  obtain ⟨a3,b3,c3,d3,m4,e3,f3⟩:=OwnT.elem hOzt ((((yy-r.y0)*(r.x1-r.x0))+xx)-r.x0)
  refine drawE [16,18,20] [(1,⟨g0,3,none⟩, .slice azt nzt kzt),(4,⟨d0,1,none⟩,I r.y0),(7,⟨g0,0,none⟩,I (r.x1-r.x0)),(12,⟨d0,0,none⟩,I r.x0)] [(true,[0,2,3,6,9,11,14,15,17]),(true,[1]),(true,[4]),(true,[5]),(true,[7]),(true,[8]),(true,[10]),(true,[12]),(true,[13]),(false,[16]),(false,[18]),(true,[19]),(false,[20])] rfl kr ⟨cI a0 1,cI a0 3,cI a0 1,cI a0 3,trivial⟩ ?_
  have g3:=a0.drew
  refine wU [0,2,3,6,9,11,14,15,17]<|wLd (.slice azt nzt kzt) 0 isAgg22<|wLd (I r.y0) 1 isAgg3<|wSub yy r.y0<|wLd (I (r.x1-r.x0)) 2 isAgg3<|wMul (yy-r.y0) (r.x1-r.x0)<|wAdd ((yy-r.y0)*(r.x1-r.x0)) xx<|wLd (I r.x0) 3 isAgg3<|wSub (((yy-r.y0)*(r.x1-r.x0))+xx) r.x0<|wO rfl<|cR call172 (r7_shift s1 sh2 g3.flat) fun _ n0=>nilO ⟨⟨cI n0 1,cI n0 3,cI n0 1,cI n0 3,trivial⟩,?_⟩
  refine wO rfl<|cR call171 (r7_clamp (shiftV s1 sh2) out n0.flat) fun _ o0=>nilO ⟨⟨cI o0 1,cI o0 3,cI o0 1,cI o0 3,trivial⟩,?_⟩
  refine wY (.pointer (some ⟨b3,c3+(((((yy-r.y0)*(r.x1-r.x0))+xx)-r.x0)).toNat*1,none⟩)) rfl (fun w _=>Y_idx (a:=azt) (i:=((((yy-r.y0)*(r.x1-r.x0))+xx)-r.x0)) (len:=nzt) (cap:=kzt) rfl runUnderlying22 sizeOf3 kr kr e3)<|wO rfl<|sStF o0 hOzt f3 0 (((((yy-r.y0)*(r.x1-r.x0))+xx)-r.x0)).toNat 0 a3 (clampV (shiftV s1 sh2) out) d3 (I (clampV (shiftV s1 sh2) out)) [I (clampV (shiftV s1 sh2) out)] sizeOf3 fun _ h3 i3 j3=>nilO ⟨dA,?_⟩
  refine wN<|bN<|tN<|rE<|pu1<|sAdd xx 1<|pu1<|nT ?_
  exact ⟨(j+1,(xx+1),(zt.set ((((((yy-r.y0)*(r.x1-r.x0))+xx)-r.x0)).toNat) (clampV (shiftV s1 sh2) out)),azt,nzt,kzt,h3),od,alA,j3,om,om,(by rw [show ((((((yy-r.y0)*(r.x1-r.x0))+xx)-r.x0)).toNat)=i*Wn+j by omega,hE2,fill_set (grid_len _ _ _) om,<-Nat.add_assoc,grid_succ om];congr 2;rw [hf];dsimp only;rw [<-hxx,<-hyy];unfold resX;rw [hta,hxa,show t9.v.weights.length=k from by simp only [Tap.v];omega,<-hs1]),i3⟩
 refine kT<|seqE<|blockE ?_
 obtain ⟨k3,q0,r0,q1,s0,r1⟩:=RdT.elem hy yy
 obtain rfl:t9=k3:=Option.some.inj (ht9.symm.trans q1)
 obtain ⟨l3,c1,d1,t1,u1,m3⟩:=RdT.elem hx xx
 obtain rfl:t8=l3:=Option.some.inj (ht8.symm.trans t1)
 obtain ⟨i0,v1,w1,e1,z1,n3⟩:=RdT.elem (dy t9 (List.mem_of_getElem? q1)).weights (k:Int)
 rw [Int.toNat_natCast] at e1
 have hwx:=areW_at hft.2.2 e1;have hwv:t9.v.weights[k]?=some i0:=e1
 refine drawE [23] [(5,⟨q0,r0+1,none⟩, .slice t9.weights.a t9.weights.n t9.weights.k),(8,⟨v1,w1,none⟩,I i0),(9,⟨b0,0,none⟩,I p.w),(9,⟨b0,1,none⟩,I p.h),(9,⟨b0,2,none⟩,I p.max_),(9,⟨b0,3,none⟩, .slice p.pix.a p.pix.n p.pix.k),(10,⟨c0,0,none⟩,I e0.policy),(10,⟨c0,1,none⟩,I e0.fill),(14,⟨c1,d1+0,none⟩,I t8.first),(14,⟨c1,d1+1,none⟩, .slice t8.weights.a t8.weights.n t8.weights.k),(20,⟨q0,r0+0,none⟩,I t9.first)] [(true,[0,1,2]),(true,[3]),(true,[4,6,11,12]),(true,[13]),(true,[15,16,17]),(true,[18]),(true,[19,21]),(true,[5]),(true,[7]),(true,[8]),(true,[9]),(true,[10]),(true,[14]),(true,[20]),(true,[22]),(false,[23]),(true,[24]),(true,[25]),(true,[26])] rfl kr ⟨.inr ((s0.up 6 rfl).cell a0 (k:=1) rfl), .inr ((z1.up 6 rfl).cell a0 (k:=0) rfl),cI a0 5,cI a0 5,cI a0 5,cI a0 5,cI a0 4,cI a0 4, .inr ((u1.up 6 rfl).cell a0 (k:=0) rfl), .inr ((u1.up 6 rfl).cell a0 (k:=1) rfl), .inr ((s0.up 6 rfl).cell a0 (k:=0) rfl),trivial⟩ ?_
 have o3:=a0.drew
 refine wU [0,1,2]<|wY (.pointer (some ⟨q0,r0,none⟩)) rfl (fun w _=>Y_idx (a:=ay) (i:=yy) (len:=ny) (cap:=ky) rfl runUnderlying50 sizeOf122 kr kr r1)<|wU [4,6,11,12]<|wY (.pointer (some ⟨c1,d1,none⟩)) rfl (fun w _=>Y_idx (a:=ax) (i:=xx) (len:=nx) (cap:=kx) rfl runUnderlying50 sizeOf122 kr kr m3)<|wU [15,16,17]<|wY (.pointer (some ⟨q0,r0,none⟩)) rfl (fun w _=>Y_idx (a:=ay) (i:=yy) (len:=ny) (cap:=ky) rfl runUnderlying50 sizeOf122 kr kr r1)<|wU [19,21]<|wLd (.slice t9.weights.a t9.weights.n t9.weights.k) 0 isAgg22 ?_
 refine wY (.pointer (some ⟨v1,w1,none⟩)) rfl (fun w _=>Y_idx (a:=t9.weights.a) (i:=(k:Int)) (len:=t9.weights.n) (cap:=t9.weights.k) rfl runUnderlying22 sizeOf3 kr kr n3)<|wLd (I i0) 1 isAgg3<|wY (.agg (encPlane p).toArray) rfl (fun w hF=>Y_loadF rfl (isAgg38 w) (sizeOf38 w) kr rfl ⟨hF 2 _ _ rfl,hF 3 _ _ rfl,hF 4 _ _ rfl,hF 5 _ _ rfl,trivial⟩)<|wY (.agg #[I e0.policy,I e0.fill]) rfl (fun w hF=>Y_loadF rfl (isAgg49 w) (sizeOf49 w) kr rfl ⟨hF 6 _ _ rfl,hF 7 _ _ rfl,trivial⟩)<|wY (.agg #[I t8.first, .slice t8.weights.a t8.weights.n t8.weights.k]) rfl (fun w hF=>Y_loadF rfl (isAgg122 w) (sizeOf122 w) kr rfl ⟨hF 8 _ _ rfl,hF 9 _ _ rfl,trivial⟩) ?_
 refine wLd (I t9.first) 10 isAgg3<|wAdd t9.first (k:Int)<|wO rfl<|cR call174 (r11_mid p e0 t8 sh (t9.first+(k:Int)) ⟨(RdT.flat (hp.pix.up 6 (by rfl)))⟩ ⟨(RdT.flat ((dx t8 (List.mem_of_getElem? t1)).weights.up 6 (by rfl)))⟩ hpo hev hbxu hfxu o3.flat) fun _ t0=>?_
 have hgb:=tap_bd hpo hev (s:=sh) (k:=(t9.first+(k:Int))) hcc hxmm htm;have hpm:=wmul_bd (v:=(tapV p.v e0.policy e0.fill t8.v sh (t9.first+(k:Int)))) (B:=68719476736) hwx hgb (by decide)
 refine nilO ⟨⟨.inr ((s0.up 6 rfl).cell t0 (k:=1) rfl), .inr ((z1.up 6 rfl).cell t0 (k:=0) rfl),dI,dI,dI,dI,dI,dI,dI,dI, .inr ((s0.up 6 rfl).cell t0 (k:=0) rfl),trivial⟩,?_⟩
 exact wMul i0 (tapV p.v e0.policy e0.fill t8.v sh (t9.first+(k:Int)))<|wAdd s1 (i0*(tapV p.v e0.policy e0.fill t8.v sh (t9.first+(k:Int))))<|wU [26]<|wN<|bN<|tN<|rE<|pu1<|sAdd (k:Int) 1<|pu1<|nT<|⟨(k+1,(s1+(i0*(tapV p.v e0.policy e0.fill t8.v sh (t9.first+(k:Int)))))),od,alA,t0,om,(by rw [resS_succ hwv,<-hs1];rfl)⟩
theorem r12_bin (v:Int) (m:Int) (n:Int) (hS:Sat W w (H::F)):
  Ro prog 127 #[I v,I m,I n] (I (binV v m n)) W w (H::F):=by
 refine callsA 33 func127 rfl<|sR<|pu1<|zQ<|pu3<|sD 9 (m<1) (fun b0=>?_) (fun b0=>?_)
 ·exact pu16<|pu1<|zC<|pu1<|zR<|retT [I 0]<|⟨by unfold binV;rw [if_neg om];rfl,hS⟩
 refine pu4<|sD 13 (m>4294967296) (fun c0=>?_) (fun c0=>?_)
 ·exact pu13<|zC<|pu1<|zR<|retT [I 0]<|⟨by unfold binV;rw [if_neg om];rfl,hS⟩
 refine pu4<|sD 17 (v<0) (fun d0=>?_) (fun d0=>?_)
 ·exact pu9<|zC<|pu1<|zR<|retT [I 0]<|⟨by unfold binV;rw [if_neg om];rfl,hS⟩
 refine pu5<|sD 22 (v>m) (fun e0=>?_) (fun e0=>?_)
 ·exact pu4<|zC<|pu1<|zR<|retT [I 0]<|⟨by unfold binV;rw [if_neg om];rfl,hS⟩
 refine pu1<|gY<|cR call124 (r12_bins n hS.flat) fun _ a0=>pu2<|nT<|cDn ((1:Int)<=n/\n<=(128:Int)) (fun f0=>?_) (fun f0=>?_)
 rotate_left
 ·exact sR<|pu1<|zR<|retT [I 0]<|⟨by unfold binV;rw [if_neg om];rfl,a0⟩
 refine kT<|seqE ?_
 have hm0:=mul_bd (a:=v) (b:=n) (A:=4294967296) (B:=128) om om;have ht:(v*n).tdiv (m+1)=v*n/(m+1):=Int.tdiv_eq_ediv_of_nonneg (Int.mul_nonneg om om);have hd:=tdiv_bd (a:=v*n) (b:=m+1) (A:=549755813888) om om
 exact rE<|pu2<|sMul v n<|pu1<|sAdd m 1<|sQuo (v*n) (m+1)<|pu1<|zE<|retT [I ((v*n).tdiv (m+1))]<|⟨congrArg (fun z=>Ending.returned (I z)) (by unfold binV;rw [if_pos om];exact ht),a0⟩
theorem r12_partial (p:Plane) (bins:Int) (r:Rct) (hp:Plane.Ok [H] p) (hS:Sat W w (H::F)):
  Calls prog 78 #[.agg (encPlane p).toArray,I bins, .agg (encRct r).toArray] w fun e w'=>∃(az:Option Addr) (nz kz:Nat) (zs:List Int) (c:Int) (G:Chunk),e= .returned (.tuple #[.slice az nz kz,I c])/\RdT Go.E.encI 1 [G] az nz kz zs/\(zs,c)=(partV p.v bins r,partC p.v bins r)/\Sat W w' (G::H::F):=by
 have hl_p_pix:=hp.pix.le;have hn_p_pix:=hp.pix.len
 refine callsA 68 func78 rfl<|sR<|sBox hS (.agg (encPlane p).toArray) (encPlane p).toArray fun e0 _ w0=>sBox w0 (.agg (encRct r).toArray) (encRct r).toArray fun b0 _ o0=>pu2<|nT<|seqE<|blockE<|sR<|lA o0 1 0 4 (isAgg38 _) (sizeOf38 _)<|cR call76 (r4_valid p ⟨(RdT.flat (hp.pix.up 2 (by rfl)))⟩ o0.flat) fun _ p0=>pu2<|nT<|cBn (planeOK p.v) (fun h0=>?_) (fun h0=>?_)
 rotate_left
 ·refine sR<|pu2<|zB<|retT [nS,I 1] ?_
  have hC:partC p.v bins r=1:=by unfold partC;rw [if_neg h0]
  have z0:=(p0.drops [0,0])
  have a1:Sat W _ ([]::H::F):=Sat.nilc z0
  exact ⟨none,0,0,[],1,_,rfl,RdT.nil (enc:=Go.E.encI) (sz:=1) fR [[]],(by unfold partV;rw [hC];rfl),a1⟩
 refine sR<|pu1<|cR call124 (r12_bins bins p0.flat) fun _ i0=>pu2<|nT<|cDn ((1:Int)<=bins/\bins<=(128:Int)) (fun b1=>?_) (fun b1=>?_)
 rotate_left
 ·refine sR<|pu2<|zB<|retT [nS,I 9] ?_
  have hC:partC p.v bins r=9:=by unfold partC;rw [if_pos h0,if_neg om]
  have c1:=(i0.drops [0,0])
  have d1:Sat W _ ([]::H::F):=Sat.nilc c1
  exact ⟨none,0,0,[],9,_,rfl,RdT.nil (enc:=Go.E.encI) (sz:=1) fR [[]],(by unfold partV;rw [hC];rfl),d1⟩
 refine cutA (γ:=Unit) (fun _=>[(1,I bins),(3,Pt e0 0),(5,Pt b0 0),(19, .bool (decide (¬(insP r ⟨0,0,p.w,p.h⟩/\¬(r.x0=0/\r.y0=0/\r.x1=0/\r.y1=0)))))]) (fun _ w=>Sat W w ([(b0, .cells (encRct r).toArray 45 (0,0))]::[(e0, .cells (encPlane p).toArray 38 (0,0))]::H::F)) ?_ ?_
 ·refine drawP [1,4,5,6,7] [(0,⟨b0,0,none⟩,I r.x0),(0,⟨b0,1,none⟩,I r.y0),(0,⟨b0,2,none⟩,I r.x1),(0,⟨b0,3,none⟩,I r.y1)] (Plan.sts [0]<| .ef 1<|Plan.sts [2]<|Plan.sts [3]<| .fk 4 5 (.ef 5<| .ef 6<| .ef 7<|Plan.sts [8]<|Plan.sts [9]<|Plan.sts [10]<| .fin) (.fk 4 6 (.ef 6<| .ef 7<|Plan.sts [8]<|Plan.sts [9]<|Plan.sts [10]<| .fin) (.ef 4<| .ef 7<|Plan.sts [8]<|Plan.sts [9]<|Plan.sts [10]<| .fin))) rfl kr ⟨cI i0 0,cI i0 0,cI i0 0,cI i0 0,trivial⟩ ?_
  have e1:=i0.drew
  refine qY (.agg (encRct r).toArray) rfl (fun w hF=>Y_loadF rfl (isAgg45 w) (sizeOf45 w) kr rfl ⟨hF 0 _ _ rfl,hF 1 _ _ rfl,hF 2 _ _ rfl,hF 3 _ _ rfl,trivial⟩)<|qO rfl<|cR call102 (r2_full r e1.flat) fun _ c0=>nilO ⟨dA,?_⟩
  refine qU [2]<|qU [3]<|qF ?_ ?_
  ·rcases Classical.em (rvP r/\¬(r.x0=0/\r.y0=0/\r.x1=0/\r.y1=0)) with k0|k0
   rotate_left
   ·refine qFix 23 _ true (congrArg Bool.not (decide_eq_false k0))<|qO rfl<|pu1<|nilO ⟨dA,?_⟩
    refine qO rfl<|pu1<|nilO ⟨dA,?_⟩
    refine qO rfl<|pu1<|nilO ⟨dA,?_⟩
    refine qO rfl<|pu1<|nilO ⟨dA,?_⟩
    exact qU [8]<|qU [9]<|qU [10]<|qN<|tN<|⟨(),⟨kr,kr,kr,(Eq.trans (b:= .bool true) kr (congrArg Value.bool (decide_eq_true (p:=¬(insP r ⟨0,0,p.w,p.h⟩/\¬(r.x0=0/\r.y0=0/\r.x1=0/\r.y1=0))) (by exact fun h=>k0 ⟨h.1.1,h.2⟩)).symm)),trivial⟩,c0⟩
   refine qFix 23 _ false (congrArg Bool.not (decide_eq_true k0))<|qO rfl<|gY<|lA c0 0 0 4 (isAgg45 _) (sizeOf45 _)<|nilO ⟨dA,?_⟩
   refine qO rfl<|gY<|lA c0 1 0 4 (isAgg38 _) (sizeOf38 _)<|nilO ⟨dA,?_⟩
   refine qO rfl<|gY<|cR call126 (r4_cover p ⟨(RdT.flat (hp.pix.up 2 (by rfl)))⟩ c0.flat) fun _ f1=>nilO ⟨dA,?_⟩
   refine qO rfl<|gY<|cR call125 (r2_inside r (⟨0,0,p.w,p.h⟩:Rct) f1.flat) fun _ g1=>nilO ⟨dA,?_⟩
   exact qU [8]<|qU [9]<|qU [10]<|qN<|tN<|⟨(),⟨kr,kr,kr,(Eq.trans (b:= .bool (!decide (insP r (⟨0,0,p.w,p.h⟩:Rct)))) kr (congrArg Value.bool (by rw [Bool.eq_iff_iff];simp only [decide_eq_true_eq,beq_iff_eq,bne_iff_ne,ne_eq,Bool.not_eq_true',decide_eq_false_iff_not,gt_iff_lt,ge_iff_le,Bool.and_eq_true,Bool.or_eq_true,Bool.not_eq_eq_eq_not,Bool.not_true,Bool.and_eq_false_imp,beq_eq_false_iff_ne]<;>exact ⟨fun h k=>h k.1,fun h k=>h ⟨k,k0.2⟩⟩))),trivial⟩,g1⟩
  rcases Classical.em (rvP r/\¬(r.x0=0/\r.y0=0/\r.x1=0/\r.y1=0)) with f0|f0
  rotate_left
  ·refine qFix 23 _ true (congrArg Bool.not (decide_eq_false f0))<|qO rfl<|pu1<|nilO ⟨dA,?_⟩
   refine qF ?_ ?_
   rotate_left
   ·refine qO rfl<|pu1<|nilO ⟨dA,?_⟩
    refine qO rfl<|pu1<|nilO ⟨dA,?_⟩
    refine qO rfl<|pu1<|nilO ⟨dA,?_⟩
    exact qU [8]<|qU [9]<|qU [10]<|qN<|tN<|⟨(),⟨kr,kr,kr,(Eq.trans (b:= .bool true) kr (congrArg Value.bool (decide_eq_true (p:=¬(insP r ⟨0,0,p.w,p.h⟩/\¬(r.x0=0/\r.y0=0/\r.x1=0/\r.y1=0))) (by exact fun h=>f0 ⟨h.1.1,h.2⟩)).symm)),trivial⟩,c0⟩
   refine qO rfl<|pu1<|nilO ⟨dA,?_⟩
   refine qO rfl<|pu1<|nilO ⟨dA,?_⟩
   refine qO rfl<|pu1<|nilO ⟨dA,?_⟩
   exact qU [8]<|qU [9]<|qU [10]<|qN<|tN<|⟨(),⟨kr,kr,kr,(Eq.trans (b:= .bool true) kr (congrArg Value.bool (decide_eq_true (p:=¬(insP r ⟨0,0,p.w,p.h⟩/\¬(r.x0=0/\r.y0=0/\r.x1=0/\r.y1=0))) (by exact fun h=>f0 ⟨h.1.1,h.2⟩)).symm)),trivial⟩,c0⟩
  refine qFix 23 _ false (congrArg Bool.not (decide_eq_true f0))<|qO rfl<|gY<|lA c0 1 0 4 (isAgg38 _) (sizeOf38 _)<|nilO ⟨dA,?_⟩
  refine qF ?_ ?_
  rotate_left
  ·refine qO rfl<|gY<|cR call126 (r4_cover p ⟨(RdT.flat (hp.pix.up 2 (by rfl)))⟩ c0.flat) fun _ q0=>nilO ⟨dA,?_⟩
   refine qO rfl<|gY<|lA q0 0 0 4 (isAgg45 _) (sizeOf45 _)<|nilO ⟨dA,?_⟩
   refine qO rfl<|gY<|cR call125 (r2_inside r (⟨0,0,p.w,p.h⟩:Rct) q0.flat) fun _ i1=>nilO ⟨dA,?_⟩
   exact qU [8]<|qU [9]<|qU [10]<|qN<|tN<|⟨(),⟨kr,kr,kr,(Eq.trans (b:= .bool (!decide (insP r (⟨0,0,p.w,p.h⟩:Rct)))) kr (congrArg Value.bool (by rw [Bool.eq_iff_iff];simp only [decide_eq_true_eq,beq_iff_eq,bne_iff_ne,ne_eq,Bool.not_eq_true',decide_eq_false_iff_not,gt_iff_lt,ge_iff_le,Bool.and_eq_true,Bool.or_eq_true,Bool.not_eq_eq_eq_not,Bool.not_true,Bool.and_eq_false_imp,beq_eq_false_iff_ne]<;>exact ⟨fun h k=>h k.1,fun h k=>h ⟨k,f0.2⟩⟩))),trivial⟩,i1⟩
  refine qO rfl<|gY<|lA c0 0 0 4 (isAgg45 _) (sizeOf45 _)<|nilO ⟨dA,?_⟩
  refine qO rfl<|gY<|cR call126 (r4_cover p ⟨(RdT.flat (hp.pix.up 2 (by rfl)))⟩ c0.flat) fun _ j1=>nilO ⟨dA,?_⟩
  refine qO rfl<|gY<|cR call125 (r2_inside r (⟨0,0,p.w,p.h⟩:Rct) j1.flat) fun _ k1=>nilO ⟨dA,?_⟩
  exact qU [8]<|qU [9]<|qU [10]<|qN<|tN<|⟨(),⟨kr,kr,kr,(Eq.trans (b:= .bool (!decide (insP r (⟨0,0,p.w,p.h⟩:Rct)))) kr (congrArg Value.bool (by rw [Bool.eq_iff_iff];simp only [decide_eq_true_eq,beq_iff_eq,bne_iff_ne,ne_eq,Bool.not_eq_true',decide_eq_false_iff_not,gt_iff_lt,ge_iff_le,Bool.and_eq_true,Bool.or_eq_true,Bool.not_eq_eq_eq_not,Bool.not_true,Bool.and_eq_false_imp,beq_eq_false_iff_ne]<;>exact ⟨fun h k=>h k.1,fun h k=>h ⟨k,f0.2⟩⟩))),trivial⟩,k1⟩
 rintro _ ρ _ r0
 refine cD (¬(insP r ⟨0,0,p.w,p.h⟩/\¬(r.x0=0/\r.y0=0/\r.x1=0/\r.y1=0))) (fun n0=>?_) (fun n0=>?_)
 ·refine sR<|pu2<|zB<|retT [nS,I 8] ?_
  have hsz:=(plane_sz h0).1;unfold sizeP at hsz;simp only [Plane.v] at hsz
  have hC:partC p.v bins r=8:=by unfold partC;rw [if_pos h0,if_pos om,if_neg (fun h=>by have h2:=(ins_in (by simp only [Plane.v];omega) (by simp only [Plane.v];omega)).2 h;exact n0 ⟨h2.2,h2.1⟩)]
  have l1:=(r0.drops [0,0])
  have m1:Sat W _ ([]::H::F):=Sat.nilc l1
  exact ⟨none,0,0,[],8,_,rfl,RdT.nil (enc:=Go.E.encI) (sz:=1) fR [[]],(by unfold partV;rw [hC];rfl),m1⟩
 refine skipE<|bN<|tN<|seqE ?_
 have hpo:planeOK p.v=true:=h0;have hsz:=(plane_sz hpo).1;unfold sizeP at hsz;simp only [Plane.v] at hsz;have hri:rIn r p.w p.h:=(ins_in om om).1 (And.comm.1 (Classical.not_not.1 n0))
 have hri0:=hri;unfold rIn at hri0
 obtain ⟨Wn,hW⟩:∃k:Nat,r.x1-r.x0=(k:Int):=⟨_,(Int.toNat_of_nonneg om).symm⟩;obtain ⟨Hn,hH⟩:∃k:Nat,r.y1-r.y0=(k:Int):=⟨_,(Int.toNat_of_nonneg om).symm⟩
 have hWb:1<=Wn/\Wn<=128/\1<=Hn/\Hn<=128:=om;have hWH:Hn*Wn<=4096:=by have h1:=rIn_area hri (by first|omega|assumption);rw [hW,hH] at h1;have h2:((Hn*Wn:Nat):Int)=(Wn:Int)*(Hn:Int):=(by push_cast;rw [Int.mul_comm]);omega
 have hWi:(r.x1-r.x0)*(r.y1-r.y0)=((Hn*Wn:Nat):Int):=by rw [hW,hH];push_cast;rw [Int.mul_comm]
 have hpl:p.v.pix.length=p.pix.n:=hn_p_pix;have hbn:(bins.toNat:Int)=bins:=Int.toNat_of_nonneg om
 refine rE<|pu1<|sMake (kl:= .i64) (kc:= .i64) (enc:=Go.E.encI) (sz:=1) (nb:=8) r0 0 (bins).toNat bins (om:bins=(((bins).toNat:Nat):Int)) underlying22 (i:=Tryz.t3) kr fR fun n1 o1 _ p1 s0=>pu1<|zQ<|pu1<|sL s0 1 1 (I r.y0) (isAgg3 _)<|pu1<|nT<|blockE ?_
 refine loopA (γ:=Nat×Int×(List Int)×(Option Addr)×Nat×Nat×Chunk) (fun ⟨i,yy,zs,azs,nzs,kzs,czs⟩=>[(1,I bins),(3,Pt e0 0),(5,Pt b0 0),(9,I yy),(8, .slice azs nzs kzs)]) (fun ⟨i,yy,zs,azs,nzs,kzs,czs⟩ w=>Sat W w (czs::[(b0, .cells (encRct r).toArray 45 (0,0))]::[(e0, .cells (encPlane p).toArray 38 (0,0))]::H::F)/\i<=Hn/\(yy=r.y0+(i:Int))/\(zs=cntV p.v bins r (i*Wn))/\OwnT Go.E.encI 3 1 azs nzs kzs zs czs) (fun ⟨i,yy,zs,azs,nzs,kzs,czs⟩=>Hn-i) (0,r.y0,(List.replicate (bins).toNat 0),(At n1 0),(bins).toNat,(bins).toNat,o1) ⟨s0,om,om,(by rw [Nat.zero_mul];rfl),p1⟩ ?_
 rintro ⟨i,yy,zs,azs,nzs,kzs,czs⟩ ρ _ ⟨l0,hi,hyy,hE,hOzs⟩
 have hn_zs:=hOzs.len;have hl_zs:=hOzs.le
 refine seqE<|sR<|pu2<|sL l0 1 3 (I r.y1) (isAgg3 _)<|pu1<|nT<|cD (yy<r.y1) (fun q1=>?_) (fun q1=>?_)
 rotate_left
 ·refine exitE<|xB<|tN<|sR<|pu3<|zE<|retT [.slice azs nzs kzs,I 0] ?_
  have hC:partC p.v bins r=0:=by unfold partC;rw [if_pos hpo,if_pos om,if_pos (show rIn r p.v.w p.v.h from hri)]
  exact ⟨azs,nzs,kzs,zs,0,_,rfl,(hOzs.rdAt (cs:=[czs]) 0 rfl),(by unfold partV;rw [hC,if_pos rfl,hE,show areaN r=i*Wn from by unfold areaN;rw [hWi,Int.toNat_natCast,show i=Hn by omega]]),(l0.drops [1,1])⟩
 refine kT<|seqE<|blockE<|sR<|pu1<|sL l0 1 0 (I r.x0) (isAgg3 _)<|pu1<|nT<|blockE ?_
 refine loopA (γ:=Nat×Int×(List Int)×(Option Addr)×Nat×Nat×Chunk) (fun ⟨j,xx,zt,azt,nzt,kzt,czt⟩=>[(1,I bins),(3,Pt e0 0),(5,Pt b0 0),(9,I yy),(10,I xx),(8, .slice azt nzt kzt)]) (fun ⟨j,xx,zt,azt,nzt,kzt,czt⟩ w=>Sat W w (czt::[(b0, .cells (encRct r).toArray 45 (0,0))]::[(e0, .cells (encPlane p).toArray 38 (0,0))]::H::F)/\j<=Wn/\(xx=r.x0+(j:Int))/\(zt=cntV p.v bins r (i*Wn+j))/\OwnT Go.E.encI 3 1 azt nzt kzt zt czt) (fun ⟨j,xx,zt,azt,nzt,kzt,czt⟩=>Wn-j) (0,r.x0,zs,azs,nzs,kzs,czs) ⟨l0,om,om,(by rw [Nat.add_zero];exact hE),hOzs⟩ ?_
 rintro ⟨j,xx,zt,azt,nzt,kzt,czt⟩ ρ _ ⟨g0,hj,hxx,hE2,hOzt⟩
 have hn_zt:=hOzt.len;have hl_zt:=hOzt.le
 have hzl2:zt.length=bins.toNat:=by rw [hE2];exact cnt_len _ _ _ _
 have hij:i*Wn+j<=Hn*Wn:=by have h1:=Nat.mul_le_mul_right Wn (show i+1<=Hn by omega);rw [Nat.add_mul,Nat.one_mul] at h1;omega
 refine seqE<|sR<|pu2<|sL g0 1 2 (I r.x1) (isAgg3 _)<|pu1<|nT<|cD (xx<r.x1) (fun s1=>?_) (fun s1=>?_)
 rotate_left
 ·refine exitE<|xB<|bN<|tN<|rE<|pu1<|sAdd yy 1<|pu1<|nT ?_
  exact ⟨(i+1,(yy+1),zt,azt,nzt,kzt,czt),od,alA,g0,om,om,(by rw [Nat.add_mul,Nat.one_mul,hE2,show j=Wn by omega]),hOzt⟩
 refine kT<|seqE<|blockE ?_
 have hix:=pl_ix hpo (x:=xx) (y:=yy) (by simp only [Plane.v];omega) (by simp only [Plane.v];omega);rw [hpl] at hix;simp only [Plane.v] at hix
 obtain ⟨a0,t0,u0,t1,u1,v1⟩:=RdT.elem hp.pix ((yy*p.w)+xx)
 have hpa:pixAt p.v (r.x0+(j:Int)) (r.y0+(i:Int))=a0:=by rw [<-hxx,<-hyy];exact pixAt_eq t1
 refine drawE [14,16,19] [(2,⟨e0,3,none⟩, .slice p.pix.a p.pix.n p.pix.k),(5,⟨e0,0,none⟩,I p.w),(10,⟨t0,u0,none⟩,I a0),(12,⟨e0,2,none⟩,I p.max_)] [(true,[0,1,3,4,7,11,13]),(true,[2]),(true,[5]),(true,[6]),(true,[8]),(true,[9]),(true,[10]),(true,[12]),(false,[14]),(true,[15]),(false,[16]),(true,[17]),(true,[18]),(false,[19])] rfl kr ⟨cI g0 2,cI g0 2, .inr ((u1.up 3 rfl).cell g0 (k:=0) rfl),cI g0 2,trivial⟩ ?_
 have w1:=g0.drew
 refine wU [0,1,3,4,7,11,13]<|wLd (.slice p.pix.a p.pix.n p.pix.k) 0 isAgg22<|wLd (I p.w) 1 isAgg3<|wMul yy p.w<|wAdd (yy*p.w) xx<|wY (.pointer (some ⟨t0,u0,none⟩)) rfl (fun w _=>Y_idx (a:=p.pix.a) (i:=((yy*p.w)+xx)) (len:=p.pix.n) (cap:=p.pix.k) rfl runUnderlying22 sizeOf3 kr kr v1)<|wLd (I a0) 2 isAgg3<|wLd (I p.max_) 3 isAgg3<|wO rfl<|cR call127 (r12_bin a0 p.max_ bins w1.flat) fun _ j0=>?_
 have hbb:=bin_bd (v:=a0) (mx:=p.max_) (bins:=bins) om
 refine nilO ⟨⟨cI j0 2,cI j0 2,dI,dI,trivial⟩,?_⟩
 obtain ⟨d0,z1,a2,v0,b2,c2,c3⟩:=OwnT.elem hOzt (binV a0 p.max_ bins)
 have hcb:=cnt_bd (p:=p.v) (bins:=bins) (r:=r) (i*Wn+j) d0 (by rw [<-hE2];exact List.mem_of_getElem? v0)
 refine wY (.pointer (some ⟨z1,a2+((binV a0 p.max_ bins)).toNat*1,none⟩)) rfl (fun w _=>Y_idx (a:=azt) (i:=(binV a0 p.max_ bins)) (len:=nzt) (cap:=kzt) rfl runUnderlying22 sizeOf3 kr kr c2)<|wO rfl<|sLp j0 (b2.up 0 rfl) 0 (I d0) (isAgg3 _)<|nilO ⟨⟨cI j0 2,cI j0 2,dI,dI,trivial⟩,?_⟩
 refine wAdd d0 1 ?_
 obtain ⟨d2,e2,f2,m0,d3,g2,i2⟩:=OwnT.elem hOzt (binV a0 p.max_ bins)
 obtain rfl:d0=d2:=Option.some.inj (v0.symm.trans m0)
 have hcb:=cnt_bd (p:=p.v) (bins:=bins) (r:=r) (i*Wn+j) d0 (by rw [<-hE2];exact List.mem_of_getElem? m0)
 refine wY (.pointer (some ⟨e2,f2+((binV a0 p.max_ bins)).toNat*1,none⟩)) rfl (fun w _=>Y_idx (a:=azt) (i:=(binV a0 p.max_ bins)) (len:=nzt) (cap:=kzt) rfl runUnderlying22 sizeOf3 kr kr g2)<|wO rfl<|sStF j0 hOzt i2 0 ((binV a0 p.max_ bins)).toNat 0 d0 (d0+1) m0 (I (d0+1)) [I (d0+1)] sizeOf3 fun _ j2 k2 l2=>nilO ⟨dA,?_⟩
 exact wN<|bN<|tN<|rE<|pu1<|sAdd xx 1<|pu1<|nT<|⟨(j+1,(xx+1),(zt.set (((binV a0 p.max_ bins)).toNat) (d0+1)),azt,nzt,kzt,j2),od,alA,l2,om,om,(by rw [<-Nat.add_assoc,cnt_succ hW om,hpa,<-hE2];exact inc_set m0),k2⟩
theorem r12_whole (p:Plane) (bins:Int) (hp:Plane.Ok [H] p) (hS:Sat W w (H::F)):
  Calls prog 95 #[.agg (encPlane p).toArray,I bins] w fun e w'=>∃(q:Plane) (c:Int) (G:Chunk),e= .returned (.tuple #[.agg (encPlane q).toArray,I c])/\q.Ok [G]/\(q.v,c)=histT p.v bins/\Sat W w' (G::H::F):=by
 have hl_p_pix:=hp.pix.le;have hn_p_pix:=hp.pix.len
 refine callsA 28 func95 rfl<|sR<|sBox hS (.agg (encPlane p).toArray) (encPlane p).toArray fun b0 _ n0=>sAlloc n0 zeroValue38 fun _ _ a0=>pu1<|nT<|seqE<|drawE [3,4] [(0,⟨b0,0,none⟩,I p.w),(0,⟨b0,1,none⟩,I p.h),(0,⟨b0,2,none⟩,I p.max_),(0,⟨b0,3,none⟩, .slice p.pix.a p.pix.n p.pix.k),(2,⟨b0,0,none⟩,I p.w),(2,⟨b0,1,none⟩,I p.h),(2,⟨b0,2,none⟩,I p.max_),(2,⟨b0,3,none⟩, .slice p.pix.a p.pix.n p.pix.k)] [(true,[1]),(true,[0]),(true,[2]),(false,[3]),(false,[4]),(true,[5]),(true,[6]),(true,[7]),(true,[8,9])] rfl kr ⟨cI a0 1,cI a0 1,cI a0 1,cI a0 1,cI a0 1,cI a0 1,cI a0 1,cI a0 1,trivial⟩ ?_
 have o0:=a0.drew
 refine wU [1]<|wY (.agg (encPlane p).toArray) rfl (fun w hF=>Y_loadF rfl (isAgg38 w) (sizeOf38 w) kr rfl ⟨hF 0 _ _ rfl,hF 1 _ _ rfl,hF 2 _ _ rfl,hF 3 _ _ rfl,trivial⟩)<|wY (.agg (encPlane p).toArray) rfl (fun w hF=>Y_loadF rfl (isAgg38 w) (sizeOf38 w) kr rfl ⟨hF 4 _ _ rfl,hF 5 _ _ rfl,hF 6 _ _ rfl,hF 7 _ _ rfl,trivial⟩)<|wO rfl<|cR call126 (r4_cover p ⟨(RdT.flat (hp.pix.up 2 (by rfl)))⟩ o0.flat) fun _ c0=>nilO ⟨⟨cI c0 1,cI c0 1,cI c0 1,cI c0 1,dI,dI,dI,dI,trivial⟩,?_⟩
 refine wO rfl<|cX call78 (r12_partial p bins (⟨0,0,p.w,p.h⟩:Rct) ⟨(RdT.flat (hp.pix.up 2 (by rfl)))⟩ c0.flat) ?_
 rintro _ _ ⟨g0,h0,i0,j0,d0,_,rfl,k0,e0,p0⟩
 have f0:=p0.unflat1
 have hn_az_19:=k0.len;have hl_az_19:=k0.le
 refine nilO ⟨dA,?_⟩
 refine wU [5]<|wU [6]<|wU [7]<|wU [8,9]<|wN<|tN<|seqE<|sR<|pu2<|nT<|cN d0 0 (fun q0=>?_) (fun q0=>?_)
 rotate_left
 ·refine sR<|pu2<|sTl f0 1 [I 0,I 0,I 0,nS] sizeOf38 fun _ l0=>pu1<|zR<|retC l0 1 [I 0,I 0,I 0,nS] (I d0) (isAgg38 _) (sizeOf38 _) ?_
  have hp1:j0=partV p.v bins ⟨0,0,p.v.w,p.v.h⟩:=congrArg Prod.fst e0;have hp2:d0=partC p.v bins ⟨0,0,p.v.w,p.v.h⟩:=congrArg Prod.snd e0
  have r0:=(l0.drops [0,0,0])
  have s0:Sat W _ ([]::H::F):=Sat.nilc r0
  exact ⟨(⟨0,0,0,⟨none,0,0,[]⟩⟩:Plane),d0,_,rfl,⟨RdT.nil (enc:=Go.E.encI) (sz:=1) fR [[]]⟩,(by unfold histT;rw [okT_n (by rw [<-hp2];omega),<-hp2];rfl),s0⟩
 refine kT<|seqE ?_
 have hpo:planeOK p.v=true:=by
  have h:=congrArg Prod.snd e0;dsimp only at h;unfold partC at h;split at h
  ·assumption
  ·omega
 have hsz:=(plane_sz hpo).1;unfold sizeP at hsz;simp only [Plane.v] at hsz;have hwh:=mul_bd (a:=p.w) (b:=p.h) (A:=128) (B:=128) om om
 refine rE<|pu2<|sL f0 2 0 (I p.w) (isAgg3 _)<|pu1<|sL f0 2 1 (I p.h) (isAgg3 _)<|sMul p.w p.h<|pu2<|sTl f0 1 [I bins,I 1,I (p.w*p.h), .slice g0 h0 i0] sizeOf38 fun _ m0=>pu1<|zE<|retC m0 1 [I bins,I 1,I (p.w*p.h), .slice g0 h0 i0] (I 0) (isAgg38 _) (sizeOf38 _) ?_
 have hp1:j0=partV p.v bins ⟨0,0,p.v.w,p.v.h⟩:=congrArg Prod.fst e0;have hp2:d0=partC p.v bins ⟨0,0,p.v.w,p.v.h⟩:=congrArg Prod.snd e0
 exact ⟨(⟨bins,1,(p.w*p.h),⟨g0,h0,i0,j0⟩⟩:Plane),0,_,rfl,⟨k0⟩,(by unfold histT;rw [okT_0 (by rw [<-hp2];omega),hp1];unfold partV;rw [if_pos (by rw [<-hp2];omega)];rfl),(m0.drops [1,1])⟩
theorem r13_check0 (p:Plane) (hp:Plane.Ok [H] p) (hS:Sat W w (H::F)):
  Ro prog 74 #[.agg (encPlane p).toArray] (.tuple #[I ((chkI p.v).1),I ((chkI p.v).2)]) W w (H::F):=by
 have hl_p_pix:=hp.pix.le;have hn_p_pix:=hp.pix.len
 refine callsA 23 func74 rfl<|sR<|sBox hS (.agg (encPlane p).toArray) (encPlane p).toArray fun _ _ d0=>pu2<|zQ<|lA d0 0 0 4 (isAgg38 _) (sizeOf38 _)<|cR call76 (r4_valid p ⟨(RdT.flat (hp.pix.up 1 (by rfl)))⟩ d0.flat) fun _ a0=>pu1<|nT<|cBn (planeOK p.v) (fun b0=>?_) (fun b0=>?_)
 rotate_left
 ·refine sR<|pu2<|zR<|retT [I 0,I 1] ?_
  exact ⟨by rw [show chkI p.v=(0,1) from by unfold chkI;rw [if_neg b0]];rfl,(a0.dropAt 0 rfl)⟩
 refine kS<|pu1<|sL a0 0 0 (I p.w) (isAgg3 _)<|pu1<|sL a0 0 1 (I p.h) (isAgg3 _)<|pu1<|sL a0 0 2 (I p.max_) (isAgg3 _)<|pu1<|cR call118 (r13_most (⟨p.w,p.h,p.max_⟩:Shape) a0.flat) fun _ e0=>pu5<|zQ<|pu2<|nT<|cBn (mostOK (⟨p.w,p.h,p.max_⟩:Shape).w (⟨p.w,p.h,p.max_⟩:Shape).h (⟨p.w,p.h,p.max_⟩:Shape).max_) (fun c0=>?_) (fun c0=>?_)
 rotate_left
 ·refine sR<|pu2<|zR<|retT [I 0,I 11] ?_
  exact ⟨by rw [show chkI p.v=(0,11) from by unfold chkI;rw [if_pos b0,if_neg (show ¬mostOK p.v.w p.v.h p.v.max_=true from c0)]];rfl,(e0.dropAt 0 rfl)⟩
 refine kS<|pu3<|zE<|retT [I (mostV (⟨p.w,p.h,p.max_⟩:Shape).w (⟨p.w,p.h,p.max_⟩:Shape).h (⟨p.w,p.h,p.max_⟩:Shape).max_),I 0] ?_
 exact ⟨by rw [show chkI p.v=((mostV (⟨p.w,p.h,p.max_⟩:Shape).w (⟨p.w,p.h,p.max_⟩:Shape).h (⟨p.w,p.h,p.max_⟩:Shape).max_),0) from by unfold chkI;rw [if_pos b0,if_pos (show mostOK p.v.w p.v.h p.v.max_=true from c0)];rfl];rfl,(e0.dropAt 0 rfl)⟩
theorem r13_whole (p:Plane) (hp:Plane.Ok [H] p) (hS:Sat W w (H::F)):
  Calls prog 27 #[.agg (encPlane p).toArray] w fun e w'=>∃(q:Plane) (c:Int) (G:Chunk),e= .returned (.tuple #[.agg (encPlane q).toArray,I c])/\q.Ok [G]/\(q.v,c)=itgW p.v/\Sat W w' (G::H::F):=by
 have hl_p_pix:=hp.pix.le;have hn_p_pix:=hp.pix.len
 refine callsA 89 func27 rfl<|sR<|sBox hS (.agg (encPlane p).toArray) (encPlane p).toArray fun f0 _ a1=>sAlloc a1 zeroValue38 fun i0 _ o0=>pu1<|zS<|lA o0 1 0 4 (isAgg38 _) (sizeOf38 _)<|cR call74 (r13_check0 p ⟨(RdT.flat (hp.pix.up 2 (by rfl)))⟩ o0.flat) fun _ j0=>pu5<|zQ<|pu2<|nT<|cN ((chkI p.v).2) 0 (fun b1=>?_) (fun b1=>?_)
 rotate_left
 ·refine sR<|pu2<|sTl j0 0 [I 0,I 0,I 0,nS] sizeOf38 fun _ p0=>pu1<|zR<|retC p0 0 [I 0,I 0,I 0,nS] (I ((chkI p.v).2)) (isAgg38 _) (sizeOf38 _) ?_
  have hC:itgW p.v=(zPl,(chkI p.v).2):=by
   have h:¬(chkI p.v).2=0:=by omega
   unfold itgW;unfold chkI at h⊢;split
   ·rename_i h1;rw [if_pos h1] at h;split
    ·rename_i h2;rw [if_pos h2] at h;exact absurd rfl h
    ·rfl
   ·rfl
  have c1:=(p0.drops [0,0])
  have d1:Sat W _ ([]::H::F):=Sat.nilc c1
  exact ⟨(⟨0,0,0,⟨none,0,0,[]⟩⟩:Plane),((chkI p.v).2),_,rfl,⟨RdT.nil (enc:=Go.E.encI) (sz:=1) fR [[]]⟩,hC.symm,d1⟩
 refine kT<|seqE ?_
 have hck:planeOK p.v=true/\mostOK p.v.w p.v.h p.v.max_=true/\(chkI p.v).1=mostV p.v.w p.v.h p.v.max_:=by
  have h:(chkI p.v).2=0:=by omega
  unfold chkI at h⊢
  split at h
  ·rename_i h1
   rw [if_pos h1]
   split at h
   ·rename_i h2;rw [if_pos h2];exact ⟨h1,h2,rfl⟩
   ·simp at h
  ·simp at h
 obtain ⟨hpo,hmo,hmv⟩:=hck;have hmv2:(chkI p.v).1=mostV p.w p.h p.max_:=hmv;have hmo2:mostOK p.w p.h p.max_=true:=hmo;have hmb:=most_bd hmo2;have hsz:=(plane_sz hpo).1;unfold sizeP at hsz;simp only [Plane.v] at hsz;have hpl:p.v.pix.length=p.pix.n:=hn_p_pix
 obtain ⟨Wn,hW⟩:∃k:Nat,p.w=(k:Int):=⟨_,(Int.toNat_of_nonneg om).symm⟩;obtain ⟨Hn,hH⟩:∃k:Nat,p.h=(k:Int):=⟨_,(Int.toNat_of_nonneg om).symm⟩;have hWi:p.w*p.h=((Hn*Wn:Nat):Int):=by rw [hW,hH];push_cast;rw [Int.mul_comm]
 obtain ⟨f,hf⟩:∃f:Int->Int->Int,f=fun i j=>recS p.v 0 0 (i.toNat+1) (j.toNat+1):=⟨_,rfl⟩
 refine rE<|pu1<|sL j0 1 0 (I p.w) (isAgg3 _)<|pu1<|sL j0 1 1 (I p.h) (isAgg3 _)<|pu1<|cX call16 (r4_new p.w p.h ((chkI p.v).1) (by unfold sizeP;omega) j0.flat) ?_
 rintro _ _ ⟨q0,r0,s0,e1,rfl,l0,f1⟩
 have g1:=f1.unflat1;have hn_az_14:=l0.len;have hl_az_14:=l0.le
 refine pu3<|sAlloc g1 zeroValue38 fun g0 _ i1=>sTl i1 0 [I p.w,I p.h,I ((chkI p.v).1), .slice q0 r0 s0] sizeOf38 fun _ j1=>pu1<|zQ<|pu1<|nT<|blockE ?_
 have k1:=(j1.pick 1 rfl)
 refine loopA (γ:=Nat×(List Int)×(Option Addr)×Nat×Nat×Chunk) (fun ⟨i,zs,azs,nzs,kzs,czs⟩=>[(1,Pt f0 0),(2,Pt i0 0),(6,Pt g0 0),(8,I (i:Int))]) (fun ⟨i,zs,azs,nzs,kzs,czs⟩ w=>Sat W w (czs::[(g0, .cells #[I p.w,I p.h,I ((chkI p.v).1), .slice azs nzs kzs] 38 (0,0))]::[(i0, .cells #[I 0,I 0,I 0,nS] 38 (0,0))]::[(f0, .cells (encPlane p).toArray 38 (0,0))]::H::F)/\i<=Hn/\(zs=gridN Wn f (i*Wn)++List.replicate (Hn*Wn-i*Wn) 0)/\OwnT Go.E.encI 3 1 azs nzs kzs zs czs) (fun ⟨i,zs,azs,nzs,kzs,czs⟩=>Hn-i) (0,(List.replicate (p.w*p.h).toNat 0),q0,r0,s0,e1) ⟨k1,om,(by rw [hWi,Int.toNat_natCast,Nat.zero_mul];rfl),l0⟩ ?_
 rintro ⟨i,zs,azs,nzs,kzs,czs⟩ ρ _ ⟨k0,hi,hE,hOzs⟩
 have hn_zs:=hOzs.len;have hl_zs:=hOzs.le
 refine seqE<|sR<|pu2<|sL k0 3 1 (I p.h) (isAgg3 _)<|pu1<|nT<|cD ((i:Int)<p.h) (fun l1=>?_) (fun l1=>?_)
 rotate_left
 ·refine exitE<|xB<|tN<|sR<|lA k0 1 0 4 (isAgg38 _) (sizeOf38 _)<|sTl k0 2 [I p.w,I p.h,I ((chkI p.v).1), .slice azs nzs kzs] sizeOf38 fun _ t0=>pu1<|zE<|retC t0 2 [I p.w,I p.h,I ((chkI p.v).1), .slice azs nzs kzs] (I 0) (isAgg38 _) (sizeOf38 _) ?_
  exact ⟨(⟨p.w,p.h,(chkI p.v).1,⟨azs,nzs,kzs,zs⟩⟩:Plane),0,_,rfl,⟨(hOzs.rdAt (cs:=[czs]) 0 rfl)⟩,(by unfold itgW;rw [okT_0 (by rw [if_pos hpo,if_pos hmo]),hE,show i=Hn by omega,Nat.sub_self,List.replicate_zero,List.append_nil,hmv,hf,show p.v.w*p.v.h=((Hn*Wn:Nat):Int) from hWi,Int.toNat_natCast,show p.v.w=(Wn:Int) from hW,hW];rfl),(t0.drops [1,1,1])⟩
 refine kT<|seqE<|blockE<|sR<|pu1<|zS<|pu1<|nT<|blockE ?_
 refine loopA (γ:=Nat×Int×(List Int)×(Option Addr)×Nat×Nat×Chunk) (fun ⟨j,s1,zt,azt,nzt,kzt,czt⟩=>[(1,Pt f0 0),(2,Pt i0 0),(6,Pt g0 0),(8,I (i:Int)),(10,I (j:Int)),(9,I s1)]) (fun ⟨j,s1,zt,azt,nzt,kzt,czt⟩ w=>Sat W w (czt::[(g0, .cells #[I p.w,I p.h,I ((chkI p.v).1), .slice azt nzt kzt] 38 (0,0))]::[(i0, .cells #[I 0,I 0,I 0,nS] 38 (0,0))]::[(f0, .cells (encPlane p).toArray 38 (0,0))]::H::F)/\j<=Wn/\(s1=sumN (fun a=>pixAt p.v (0+(a:Int)) (0+(i:Int))) j)/\(zt=gridN Wn f (i*Wn+j)++List.replicate (Hn*Wn-(i*Wn+j)) 0)/\OwnT Go.E.encI 3 1 azt nzt kzt zt czt) (fun ⟨j,s1,zt,azt,nzt,kzt,czt⟩=>Wn-j) (0,0,zs,azs,nzs,kzs,czs) ⟨k0,om,by rfl,(by rw [Nat.add_zero];exact hE),hOzs⟩ ?_
 rintro ⟨j,s1,zt,azt,nzt,kzt,czt⟩ ρ _ ⟨c0,hj,hs1,hE2,hOzt⟩
 have hn_zt:=hOzt.len;have hl_zt:=hOzt.le
 have hzl2:zt.length=Hn*Wn:=by rw [hE2,List.length_append,grid_len,List.length_replicate];have h1:=Nat.mul_le_mul_right Wn (show i+1<=Hn by omega);rw [Nat.add_mul,Nat.one_mul] at h1;omega
 have hij:i*Wn+j<=Hn*Wn:=by have h1:=Nat.mul_le_mul_right Wn (show i+1<=Hn by omega);rw [Nat.add_mul,Nat.one_mul] at h1;omega
 have hij2:i*Wn+Wn<=Hn*Wn:=by have h1:=Nat.mul_le_mul_right Wn (show i+1<=Hn by omega);rw [Nat.add_mul,Nat.one_mul] at h1;omega
 have hpr:(i:Int)*p.w=((i*Wn:Nat):Int):=by rw [hW];push_cast;rfl
 have hrb:=row_bd hpo 0 0 i (n:=j) om;rw [<-hs1] at hrb
 refine seqE<|sR<|pu2<|sL c0 3 0 (I p.w) (isAgg3 _)<|pu1<|nT<|cD ((j:Int)<p.w) (fun n1=>?_) (fun n1=>?_)
 rotate_left
 ·refine exitE<|xB<|bN<|tN<|rE<|pu1<|sAdd (i:Int) 1<|pu1<|nT ?_
  exact ⟨(i+1,zt,azt,nzt,kzt,czt),od,alA,c0,om,(by rw [Nat.add_mul,Nat.one_mul,hE2,show j=Wn by omega]),hOzt⟩
 refine kT<|seqE<|blockE<|seqE ?_
 have hix:=pl_ix hpo (x:=(j:Int)) (y:=(i:Int)) (by simp only [Plane.v];omega) (by simp only [Plane.v];omega);rw [hpl] at hix;simp only [Plane.v] at hix
 refine rE<|pu2<|sL c0 3 3 (.slice p.pix.a p.pix.n p.pix.k) (isAgg22 _)<|pu2<|sL c0 3 0 (I p.w) (isAgg3 _)<|sMul (i:Int) p.w<|pu1<|sAdd ((i:Int)*p.w) (j:Int)<|sIdx hp.pix (((i:Int)*p.w)+(j:Int)) runUnderlying22 sizeOf3 fun a0 _ _ o1 p1=>?_
 have hpa:pixAt p.v (0+(j:Int)) (0+(i:Int))=a0:=by rw [Int.zero_add,Int.zero_add];exact pixAt_eq o1
 have hpb:=pixAt_bd hpo (0+(j:Int)) (0+(i:Int));rw [hpa] at hpb;simp only [Plane.v] at hpb
 refine sLp c0 (p1.up 4 rfl) 0 (I a0) (isAgg3 _)<|sAdd s1 a0<|pu1<|zS<|pu1<|sL c0 1 3 (.slice azt nzt kzt) (isAgg22 _)<|pu2<|sL c0 3 0 (I p.w) (isAgg3 _)<|sMul (i:Int) p.w<|pu1<|sAdd ((i:Int)*p.w) (j:Int)<|pu1<|sIdxO hOzt (((i:Int)*p.w)+(j:Int)) ((((i:Int)*p.w)+(j:Int))).toNat runUnderlying22 sizeOf3 fun q1 _ _ u0 _ v0=>sStF c0 hOzt v0 0 ((((i:Int)*p.w)+(j:Int))).toNat 0 q1 (s1+a0) u0 (I (s1+a0)) [I (s1+a0)] sizeOf3 fun _ r1 h0 d0=>zS<|pu2<|nT<|cD ((i:Int)>0) (fun t1=>?_) (fun t1=>?_)
 rotate_left
 ·refine skipE<|bN<|tN<|rE<|pu1<|sAdd (j:Int) 1<|pu1<|nT ?_
  exact ⟨(j+1,(s1+a0),(zt.set (((((i:Int)*p.w)+(j:Int))).toNat) (s1+a0)),azt,nzt,kzt,r1),od,alA,d0,om,(by rw [sumN_succ,<-hs1,hpa]),(by rw [show (((((i:Int)*p.w)+(j:Int))).toNat)=i*Wn+j by omega,hE2,fill_set (grid_len _ _ _) om,<-Nat.add_assoc,grid_succ om];congr 2;rw [hf];simp only [Int.toNat_natCast];congr 1;rw [rec_down,show i=0 by omega,rec_0,sumN_succ,show sumN _ j=s1 from by rw [hs1,show i=0 by omega],show pixAt p.v (0+(j:Int)) (0+((0:Nat):Int))=a0 from by rw [<-hpa,show i=0 by omega]];omega),h0⟩
 have hpr2:((i:Int)-1)*p.w=(((i-1)*Wn:Nat):Int):=by rw [hW,show (i:Int)-1=((i-1:Nat):Int) by omega];push_cast;rfl
 have hpr3:(i-1)*Wn+Wn=i*Wn:=by have h:=Nat.add_mul (i-1) 1 Wn;rw [Nat.one_mul,show i-1+1=i by omega] at h;exact h.symm
 have u1:=set_at (y:=(s1+a0)) u0
 have v2:=OwnT.ptr h0 v0 u1
 obtain ⟨b0,m0,n0,w0,v1,x0,w1⟩:=OwnT.elem h0 (((i:Int)*p.w)+(j:Int))
 have hcv:b0=s1+a0:=by have h:=w0;rw [List.getElem?_set_self om] at h;exact (Option.some.inj h).symm
 obtain ⟨e0,y0,z0,x1,y1,z1,w2⟩:=OwnT.elem h0 ((((i:Int)-1)*p.w)+(j:Int))
 have hpv:e0=recS p.v 0 0 (j+1) i:=by
  have h:=x1
  rw [List.getElem?_set,if_neg om,show (((((i:Int)-1)*p.w)+(j:Int))).toNat=(i-1)*Wn+j by omega,hE2,List.getElem?_append_left (by rw [grid_len];omega),grid_at om] at h
  have h2:=grid_ix (nx:=(Wn:Int)) (i:=((i-1:Nat):Int)) (j:=(j:Int)) om
  rw [show ((((i-1)*Wn+j:Nat)):Int)=((i-1:Nat):Int)*(Wn:Int)+(j:Int) by push_cast;rfl,h2.1,h2.2,hf] at h
  rw [<-Option.some.inj h];simp only [Int.toNat_natCast];congr 1;omega
 have hpvb:=rec_bd9 hpo 0 0 (i:=j+1) (j:=i) om om;rw [<-hpv] at hpvb
 refine drawE [23] [(1,⟨g0,3,none⟩, .slice azt nzt kzt),(4,⟨f0,0,none⟩,I p.w),(9,⟨m0,n0+((((i:Int)*p.w)+(j:Int))).toNat*1,none⟩,I b0),(11,⟨g0,3,none⟩, .slice azt nzt kzt),(15,⟨f0,0,none⟩,I p.w),(20,⟨y0,z0+(((((i:Int)-1)*p.w)+(j:Int))).toNat*1,none⟩,I e0)] [(true,[0,2,3,6,10,12]),(true,[13]),(true,[14,17]),(true,[1]),(true,[4]),(true,[5]),(true,[7]),(true,[8]),(true,[9]),(true,[11]),(true,[15]),(true,[16]),(true,[18]),(true,[19]),(true,[20]),(true,[21]),(true,[22]),(false,[23])] rfl kr ⟨cI d0 1,cI d0 3, .inr ((v1.up 0 rfl).cell d0 (k:=0) rfl),cI d0 1,cI d0 3, .inr ((y1.up 0 rfl).cell d0 (k:=0) rfl),trivial⟩ ?_
 have a2:=d0.drew
 refine wU [0,2,3,6,10,12]<|wSub (i:Int) 1<|wU [14,17]<|wLd (.slice azt nzt kzt) 0 isAgg22<|wLd (I p.w) 1 isAgg3<|wMul (i:Int) p.w<|wAdd ((i:Int)*p.w) (j:Int)<|wY (.pointer (some ⟨m0,n0+((((i:Int)*p.w)+(j:Int))).toNat*1,none⟩)) rfl (fun w _=>Y_idx (a:=azt) (i:=(((i:Int)*p.w)+(j:Int))) (len:=nzt) (cap:=kzt) rfl runUnderlying22 sizeOf3 kr kr x0)<|wLd (I b0) 2 isAgg3<|wLd (.slice azt nzt kzt) 3 isAgg22<|wLd (I p.w) 4 isAgg3<|wMul ((i:Int)-1) p.w<|wAdd (((i:Int)-1)*p.w) (j:Int) ?_
 refine wY (.pointer (some ⟨y0,z0+(((((i:Int)-1)*p.w)+(j:Int))).toNat*1,none⟩)) rfl (fun w _=>Y_idx (a:=azt) (i:=((((i:Int)-1)*p.w)+(j:Int))) (len:=nzt) (cap:=kzt) rfl runUnderlying22 sizeOf3 kr kr z1)<|wLd (I e0) 5 isAgg3<|wAdd b0 e0<|wY (.pointer (some ⟨m0,n0+((((i:Int)*p.w)+(j:Int))).toNat*1,none⟩)) rfl (fun w _=>Y_idx (a:=azt) (i:=(((i:Int)*p.w)+(j:Int))) (len:=nzt) (cap:=kzt) rfl runUnderlying22 sizeOf3 kr kr x0)<|wO rfl<|sStF a2 h0 w1 0 ((((i:Int)*p.w)+(j:Int))).toNat 0 b0 (b0+e0) w0 (I (b0+e0)) [I (b0+e0)] sizeOf3 fun _ b2 c2 d2=>nilO ⟨dA,?_⟩
 refine wN<|bN<|tN<|rE<|pu1<|sAdd (j:Int) 1<|pu1<|nT ?_
 exact ⟨(j+1,(s1+a0),((zt.set (((((i:Int)*p.w)+(j:Int))).toNat) (s1+a0)).set (((((i:Int)*p.w)+(j:Int))).toNat) (b0+e0)),azt,nzt,kzt,b2),od,alA,d2,om,(by rw [sumN_succ,<-hs1,hpa]),(by rw [List.set_set];rw [show (((((i:Int)*p.w)+(j:Int))).toNat)=i*Wn+j by omega,hE2,fill_set (grid_len _ _ _) om,<-Nat.add_assoc,grid_succ om];congr 2;rw [hf];simp only [Int.toNat_natCast];congr 1;rw [rec_down,<-hpv,sumN_succ,<-hs1,hpa,hcv];omega),c2⟩
end Go.Proofs.YtmlhcafjelkjfaaGreat
