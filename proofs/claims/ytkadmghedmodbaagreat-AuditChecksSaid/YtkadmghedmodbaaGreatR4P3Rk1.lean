import Derived.Test.YtkadmghedmodbaaGreatR4P3Au3
set_option linter.all false
namespace Go.Proofs.YtkadmghedmodbaaGreat
open Go Go.E Go.Proofs.Tryz
set_option linter.all false
set_option maxRecDepth 100000
set_option maxHeartbeats 2000000
variable {W w:World} {H:Chunk} {F:List Chunk}
structure Rk where
  phase:Int
  row:Int
  attempt:Int
  heldJob:Int
  heldTask:Int
  deriving DecidableEq
def encRk (x:Rk):List Value:=[.int .i64 x.phase, .int .i64 x.row, .int .i64 x.attempt, .int .i64 x.heldJob, .int .i64 x.heldTask]
def encKB (b:Bool):List Value:=[.bool b]
def encPO (x:Option Nat):List Value:=[.pointer (x.map fun b=>⟨b,0,none⟩)]
def RBd (p:Option Nat) (s:Option BS) (c:Chunk):Prop:=(p=none/\s=none/\c=[])\/∃q B,p=some q/\s=some B/\RefR q B c
structure RS where
  ws:List Rk
  bs:List (Option BS)
  cx:List Bool
def RsM (p wb wo:Nat) (H:Chunk) (off:List TL) (r:RS) (M:Chunk):Prop:=∃(oa ba ca:Option Addr) (on ok wn wk bn bk cn ck:Nat) (ps:List (Option Nat)) (Wc Bc Cc:Chunk) (bcs:List Chunk),
  M=[(p, .cells #[.slice (some ⟨wb,wo,none⟩) wn wk, .slice oa on ok, .slice ba bn bk, .slice ca cn ck] 154 (0,0))]++(Wc++(Bc++(Cc++bcs.flatten)))/\
  OwnT encRk 208 5 (some ⟨wb,wo,none⟩) wn wk r.ws Wc/\OwnT encPO 96 1 ba bn bk ps Bc/\OwnT encKB 4 1 ca cn ck r.cx Cc/\Obs RBd ps r.bs bcs/\r.cx.length=r.bs.length/\RdT encTL 1 [H] oa on ok off/\(∀z∈off,TL.Ok [H] z)
instance:Inhabited Rk:=⟨⟨0,0,0,0,0⟩⟩
def runB (x:Bool) (s:Option BS):Bool:=match s with
  |none=>false
  |some B=>!x&&decide (doneOf B<((B.deps.length:Nat):Int))
def runX (bs:List (Option BS)) (cx:List Bool) (j:Int):Bool:=decide (0<=j/\j<((bs.length:Nat):Int))&&runB (cx.getD j.toNat false) (bs.getD j.toNat none)
def holdX (v:Rk):Bool:=decide (v.phase=1\/v.phase=2\/v.phase=3)
def busyX (bs:List (Option BS)) (cx:List Bool) (v:Rk):Bool:=holdX v&&runX bs cx v.heldJob
def rdyX (x:Bool) (s:Option BS):Bool:=runB x s&&(match s with|none=>false|some B=>decide (0<(((idxOf 2 0 B.st).length:Nat):Int)))
def readyX (bs:List (Option BS)) (cx:List Bool):Bool:=(List.range bs.length).any fun j=>rdyX (cx.getD j false) (bs.getD j none)
theorem rbd_some {p:Option Nat} {B:BS} {c:Chunk} (h:RBd p (some B) c):∃q,p=some q/\RefR q B c:=by
  rcases h with ⟨_,h,_⟩|⟨q,B',h1,h2,h3⟩
  · cases h
  · obtain rfl:=Option.some.inj h2;exact ⟨q,h1,h3⟩
theorem rbd_none {p:Option Nat} {c:Chunk} (h:RBd p none c):p=none/\c=[]:=by
  rcases h with ⟨h1,_,h2⟩|⟨_,_,_,h,_⟩
  · exact ⟨h1,h2⟩
  · cases h
theorem runX_some {bs:List (Option BS)} {cx:List Bool} {x:Int} (h:runX bs cx x=true):∃B,bs[x.toNat]?=some (some B)/\0<=x/\x<(bs.length:Int)/\cx.getD x.toNat false=false/\doneOf B<(B.deps.length:Int):=by
 unfold runX at h
 obtain ⟨h1,h2⟩:=(Bool.and_eq_true _ _).mp h
 have h1:=of_decide_eq_true h1
 have h3:x.toNat<bs.length:=by omega
 have h4:bs[x.toNat]?=some bs[x.toNat]:=List.getElem?_eq_getElem h3
 rw [getD_some h4] at h2
 unfold runB at h2
 cases hB:bs[x.toNat] with
 |none=>rw [hB] at h2;cases h2
 |some B=>
  rw [hB] at h2 h4
  obtain ⟨h5,h6⟩:=(Bool.and_eq_true _ _).mp h2
  exact ⟨B,h4,h1.1,h1.2,by simpa using h5,of_decide_eq_true h6⟩
theorem any_range_succ {f:Nat->Bool} {n:Nat} (h:(List.range n).any f=false) (hf:f n=false):(List.range (n+1)).any f=false:=by
  rw [List.range_succ,List.any_append,h];simp [hf]
theorem rdyX_no {bs:List (Option BS)} {cx:List Bool} {i:Nat} (hi:i<bs.length) (h:¬runX bs cx (i:Int)=true):rdyX (cx.getD i false) (bs.getD i none)=false:=by
  unfold rdyX
  have:runX bs cx (i:Int)=runB (cx.getD i false) (bs.getD i none):=by unfold runX;rw [decide_eq_true (by omega),Int.toNat_natCast];rfl
  rw [<-this,Bool.eq_false_iff.2 h];rfl
theorem rdyX_at {bs:List (Option BS)} {cx:List Bool} {i:Nat} {B:BS} (hB:bs[i]?=some (some B)) (h:runX bs cx (i:Int)=true):rdyX (cx.getD i false) (bs.getD i none)=decide (0<(((idxOf 2 0 B.st).length:Nat):Int)):=by
  have hi:=(List.getElem?_eq_some_iff.1 hB).1
  unfold rdyX
  have:runX bs cx (i:Int)=runB (cx.getD i false) (bs.getD i none):=by unfold runX;rw [decide_eq_true (by omega),Int.toNat_natCast];rfl
  rw [<-this,h,getD_some hB];rfl
def wantX (e:Evt):Evt:=
  if e.kind=1 then ⟨e.kind,0,0,e.job,0,0,e.err⟩ else if e.kind=2 then ⟨e.kind,0,0,e.job,0,0,0⟩
  else if e.kind=3\/e.kind=4\/e.kind=8\/e.kind=9\/e.kind=10 then ⟨e.kind,e.worker,0,0,e.refJob,e.refTask,0⟩
  else if e.kind=5 then ⟨e.kind,e.worker,e.from_,0,e.refJob,e.refTask,0⟩
  else if e.kind=12 then ⟨e.kind,e.worker,e.from_,0,0,0,0⟩ else ⟨e.kind,e.worker,0,0,0,0,0⟩
def fitsX (n:Nat) (e:Evt):Bool:=if e.kind=1\/e.kind=2 then decide (e=wantX e) else decide (e=wantX e/\(0<=e.worker/\e.worker<((n:Nat):Int))/\0<=e.from_/\e.from_<((n:Nat):Int))
theorem evtB (e:Evt) (a b c d f g h:Int):(((e.kind:Int)==a)&&((e.worker:Int)==b)&&((e.from_:Int)==c)&&((e.job:Int)==d)&&((e.refJob:Int)==f)&&((e.refTask:Int)==g)&&((e.err:Int)==h))=decide (e=⟨a,b,c,d,f,g,h⟩):=by
  cases e;rw [Bool.eq_iff_iff];simp [and_assoc]
theorem rx_run_o {p wb wo:Nat} {H:Chunk} {oa ba ca:Option Addr} {wn wk on ok bn bk cn ck:Nat} {ws:List Rk} {bs:List (Option BS)} {cx:List Bool} {ps:List (Option Nat)} {Wc Bc Cc:Chunk} {bcs F:List Chunk} {K:Int} (hOw:OwnT encRk 208 5 (some ⟨wb,wo,none⟩) wn wk ws Wc) (hOb:OwnT encPO 96 1 ba bn bk ps Bc) (hOc:OwnT encKB 4 1 ca cn ck cx Cc) (hBs:Obs RBd ps bs bcs) (hcl:cx.length=bs.length) (hBW:∀B,some B∈bs->BWf B K) (x:Int) (hk:¬(0<=x/\x<(bs.length:Int))) (hS:Sat W w ([(p, .cells #[.slice (some ⟨wb,wo,none⟩) wn wk, .slice oa on ok, .slice ba bn bk, .slice ca cn ck] 154 (0,0))]::Wc::Bc::Cc::bcs.flatten::H::F)):
  Calls prog 162 #[Pt p 0,I x] w fun en w'=>en= .returned (.bool (runX bs cx x))/\Sat W w' ([(p, .cells #[.slice (some ⟨wb,wo,none⟩) wn wk, .slice oa on ok, .slice ba bn bk, .slice ca cn ck] 154 (0,0))]::Wc::Bc::Cc::bcs.flatten::H::F):=by
 have k0:=hOw.ll;have g0:=hOb.ll;have e0:=hOc.ll;have h0:=hBs.1
 exact callsK 55 func162 rfl<|jCC 6 rfl<|bC ((x:Int)>=0) (fun b0=>drawF hS [39,47] (fn) [0,1,2,3,4,5,6,7,8,9,10,11,12,13,14,16,15,17,18,19,20,21,22,23,24,26,25,27,28,29,30,31,32,33,34,36,40,41,42,44,35,37,38,43,45,46,39,47,48,49,50] fun _ c0=>wV 3<|wFix 7 _ false (decide_eq_false b0)<|wV 43<|wO rfl<|pu1<|nA<|wO rfl<|pu1<|nA<|wV 3<|wN<|jXR 2 rfl<|retT [.bool false]<|⟨rB (by unfold runX;rw [decide_eq_false hk];rfl),c0⟩) fun b0=>(by have d0:¬((x:Int)<(bn:Int)):=om;exact drawF hS [39,47] (fb 7 0 2 1<|fn) [0,1,2,3,4,5,6,7,8,9,10,11,12,13,14,16,15,17,18,19,20,21,22,23,24,26,25,27,28,29,30,31,32,33,34,36,40,41,42,44,35,37,38,43,45,46,39,47,48,49,50] fun _ a0=>wV 3<|wFix 7 _ true (decide_eq_true b0)<|wV 4<|wL 0<|wV 4<|wFix 16 _ false (decide_eq_false d0)<|wV 34<|wO rfl<|pu1<|nZ a0 [0]<|wO rfl<|pu1<|nZ a0 [0]<|wV 3<|wN<|jXR 2 rfl<|retT [.bool false]<|⟨rB (by unfold runX;rw [decide_eq_false hk];rfl),a0⟩)
theorem rx_run_n {p wb wo:Nat} {H:Chunk} {oa ba ca:Option Addr} {wn wk on ok bn bk cn ck:Nat} {ws:List Rk} {bs:List (Option BS)} {cx:List Bool} {ps:List (Option Nat)} {Wc Bc Cc:Chunk} {bcs F:List Chunk} {K:Int} (hOw:OwnT encRk 208 5 (some ⟨wb,wo,none⟩) wn wk ws Wc) (hOb:OwnT encPO 96 1 ba bn bk ps Bc) (hOc:OwnT encKB 4 1 ca cn ck cx Cc) (hBs:Obs RBd ps bs bcs) (hcl:cx.length=bs.length) (hBW:∀B,some B∈bs->BWf B K) (x:Int) (hB:bs[x.toNat]?=some none) (h0:0<=x) (hS:Sat W w ([(p, .cells #[.slice (some ⟨wb,wo,none⟩) wn wk, .slice oa on ok, .slice ba bn bk, .slice ca cn ck] 154 (0,0))]::Wc::Bc::Cc::bcs.flatten::H::F)):
  Calls prog 162 #[Pt p 0,I x] w fun en w'=>en= .returned (.bool (runX bs cx x))/\Sat W w' ([(p, .cells #[.slice (some ⟨wb,wo,none⟩) wn wk, .slice oa on ok, .slice ba bn bk, .slice ca cn ck] 154 (0,0))]::Wc::Bc::Cc::bcs.flatten::H::F):=by
 have w0:=hOw.ll;have r0:=hOb.ll;have n0:=hOc.ll;have s0:=hBs.1
 have o0:0<=x/\x<(bs.length:Int):=by have h9:=(List.getElem?_eq_some_iff.1 hB).1;omega
 obtain ⟨z_,l0⟩:∃y,ps[x.toNat]?=some y:=⟨_,List.getElem?_eq_getElem om⟩
 obtain ⟨s_,c_,p0,t0,m0⟩:=Obs.get hBs l0;obtain rfl:=Option.some.inj (p0.symm.trans hB);obtain ⟨rfl,_⟩:=rbd_none m0
 refine callsK 55 func162 rfl<|jCC 6 rfl ?_
 have c0:(x:Int)>=0:=om
 have d0:(x:Int)<(bn:Int):=om
 obtain ⟨e0,i0,j0,f0,b0,g0,k0⟩:=OwnT.elem hOb x
 obtain rfl:none=e0:=Option.some.inj (l0.symm.trans f0)
 exact drawF hS [39,47] (fb 7 0 2 1<|fb 15 0 2 1<|fq 18 0 (b0.up 2 rfl)<|fn) [0,1,2,3,4,5,6,7,8,9,10,11,12,13,14,16,15,17,18,19,20,21,22,23,24,26,25,27,28,29,30,31,32,33,34,36,40,41,42,44,35,37,38,43,45,46,39,47,48,49,50] fun _ a0=>wV 3<|wFix 7 _ true (decide_eq_true c0)<|wV 4<|wL 0<|wV 4<|wFix 16 _ true (decide_eq_true d0)<|wV 4<|wL 1<|wI g0<|wL 2<|wV 27<|wO rfl<|pu1<|nilO ⟨⟨cI a0 0,cI a0 0, .inr ((b0.up 2 rfl).cell a0 (k:=0) rfl),trivial⟩,(wO rfl<|pu1<|nilO ⟨⟨cI a0 0,cI a0 0, .inr ((b0.up 2 rfl).cell a0 (k:=0) rfl),trivial⟩,(wV 3<|wN<|jXR 2 rfl<|retT [.bool false]<|⟨rB (by unfold runX runB;rw [decide_eq_true o0,getD_some hB];rfl),a0⟩)⟩)⟩
theorem rx_run_s {p wb wo:Nat} {H:Chunk} {oa ba ca:Option Addr} {wn wk on ok bn bk cn ck:Nat} {ws:List Rk} {bs:List (Option BS)} {cx:List Bool} {ps:List (Option Nat)} {Wc Bc Cc:Chunk} {bcs F:List Chunk} {K:Int} (hOw:OwnT encRk 208 5 (some ⟨wb,wo,none⟩) wn wk ws Wc) (hOb:OwnT encPO 96 1 ba bn bk ps Bc) (hOc:OwnT encKB 4 1 ca cn ck cx Cc) (hBs:Obs RBd ps bs bcs) (hcl:cx.length=bs.length) (hBW:∀B,some B∈bs->BWf B K) (x:Int) {B:BS} (hB:bs[x.toNat]?=some (some B)) (h0:0<=x) (hS:Sat W w ([(p, .cells #[.slice (some ⟨wb,wo,none⟩) wn wk, .slice oa on ok, .slice ba bn bk, .slice ca cn ck] 154 (0,0))]::Wc::Bc::Cc::bcs.flatten::H::F)):
  Calls prog 162 #[Pt p 0,I x] w fun en w'=>en= .returned (.bool (runX bs cx x))/\Sat W w' ([(p, .cells #[.slice (some ⟨wb,wo,none⟩) wn wk, .slice oa on ok, .slice ba bn bk, .slice ca cn ck] 154 (0,0))]::Wc::Bc::Cc::bcs.flatten::H::F):=by
 have H0:=hOw.ll;have D0:=hOb.ll;have B0:=hOc.ll;have E0:=hBs.1
 have A0:0<=x/\x<(bs.length:Int):=by have h9:=(List.getElem?_eq_some_iff.1 hB).1;omega
 obtain ⟨f1,j0⟩:∃y,ps[x.toNat]?=some y:=⟨_,List.getElem?_eq_getElem (by have h9:=(List.getElem?_eq_some_iff.1 hB).1;omega)⟩
 obtain ⟨g1,k0,r0,e0,s0⟩:=Obs.get hBs j0
 obtain rfl:=Option.some.inj (r0.symm.trans hB)
 obtain ⟨t0,rfl,l0⟩:=rbd_some s0
 obtain ⟨m0,i0⟩:∃y,cx[x.toNat]?=some y:=⟨_,List.getElem?_eq_getElem om⟩
 refine callsK 55 func162 rfl<|jCC 6 rfl ?_
 have n0:(x:Int)>=0:=om
 have o0:(x:Int)<(bn:Int):=om
 obtain ⟨u0,h1,i1,v0,c0,g0,j1⟩:=OwnT.elem hOb x
 obtain rfl:(some t0)=u0:=Option.some.inj (j0.symm.trans v0)
 obtain ⟨w0,k1,l1,x0,f0,p0,m1⟩:=OwnT.elem hOc x
 obtain rfl:m0=w0:=Option.some.inj (i0.symm.trans x0)
 refine bD (m0=true) (fun q0=>drawF hS [39,47] (fb 7 0 2 1<|fb 15 0 2 1<|fq 18 0 (c0.up 2 rfl)<|fb 25 0 3 1<|fq 28 0 (f0.up 3 rfl)<|fn) [0,1,2,3,4,5,6,7,8,9,10,11,12,13,14,16,15,17,18,19,20,21,22,23,24,26,25,27,28,29,30,31,32,33,34,36,40,41,42,44,35,37,38,43,45,46,39,47,48,49,50] fun _ a0=>wV 3<|wFix 7 _ true (decide_eq_true n0)<|wV 4<|wL 0<|wV 4<|wFix 16 _ true (decide_eq_true o0)<|wV 4<|wL 1<|wI g0<|wL 2<|wV 7<|wL 3<|wI p0<|wL 4<|wV 3<|wFix 36 _ false (congrArg Bool.not q0)<|wV 14<|wO rfl<|pu1<|nilO ⟨⟨cI a0 0,cI a0 0, .inr ((c0.up 2 rfl).cell a0 (k:=0) rfl),cI a0 0, .inr ((f0.up 3 rfl).cell a0 (k:=0) rfl),trivial⟩,(wO rfl<|pu1<|nilO ⟨⟨cI a0 0,cI a0 0, .inr ((c0.up 2 rfl).cell a0 (k:=0) rfl),cI a0 0, .inr ((f0.up 3 rfl).cell a0 (k:=0) rfl),trivial⟩,(wV 3<|wN<|jXR 2 rfl<|retT [.bool false]<|⟨rB (by unfold runX runB;rw [decide_eq_true A0,getD_some hB,getD_some i0];first|rfl|(simp;omega)|(simp_all;done)|(simp_all;omega)),a0⟩)⟩)⟩) fun q0=>?_
 refine drawF hS [39,47] (fb 7 0 2 1<|fb 15 0 2 1<|fq 18 0 (c0.up 2 rfl)<|fb 25 0 3 1<|fq 28 0 (f0.up 3 rfl)<|fb 35 0 2 1<|fq 38 0 (c0.up 2 rfl)<|fb 43 0 2 1<|fq 46 0 (c0.up 2 rfl)<|fn) [0,1,2,3,4,5,6,7,8,9,10,11,12,13,14,16,15,17,18,19,20,21,22,23,24,26,25,27,28,29,30,31,32,33,34,36,40,41,42,44,35,37,38,43,45,46,39,47,48,49,50] fun _ y0=>wV 3<|wFix 7 _ true (decide_eq_true n0)<|wV 4<|wL 0<|wV 4<|wFix 16 _ true (decide_eq_true o0)<|wV 4<|wL 1<|wI g0<|wL 2<|wV 7<|wL 3<|wI p0<|wL 4<|wV 3<|wFix 36 _ true (congrArg Bool.not (Bool.eq_false_iff.2 q0))<|wV 8<|wL 5<|wI g0<|wL 6<|wL 7<|wI g0<|wL 8<|wO rfl<|gY ?_
 have z0:=(y0.pick 4 rfl)
 refine cZ (r_done l0 (hBW _ (List.mem_of_getElem? hB)) (Sat.flat1 (Sat.openN (A:=[]) (x.toNat) e0 z0))) ?_
 rintro _ _ ⟨rfl,b1⟩
 have b0:=Sat.shutN (d:=k0) (A:=[]) (x.toNat) e0 (Sat.unflat1 b1);rw [set_same e0] at b0
 refine nilO ⟨⟨cI b0 1,cI b0 1, .inr ((c0.up 3 rfl).cell b0 (k:=0) rfl),cI b0 1, .inr ((f0.up 4 rfl).cell b0 (k:=0) rfl),cI b0 1,dI,cI b0 1, .inr ((c0.up 3 rfl).cell b0 (k:=0) rfl),trivial⟩,?_⟩
 refine wO rfl<|gY<|cZ (r_total l0 (hBW _ (List.mem_of_getElem? hB)) (Sat.flat1 (Sat.openN (A:=[]) (x.toNat) e0 b0))) ?_
 rintro _ _ ⟨rfl,d1⟩
 have d0:=Sat.shutN (d:=k0) (A:=[]) (x.toNat) e0 (Sat.unflat1 d1);rw [set_same e0] at d0
 exact nilO ⟨⟨cI d0 1,cI d0 1, .inr ((c0.up 3 rfl).cell d0 (k:=0) rfl),cI d0 1, .inr ((f0.up 4 rfl).cell d0 (k:=0) rfl),cI d0 1,dI,cI d0 1,dI,trivial⟩,(wV 1<|wV 2<|wN<|jXR 2 rfl<|retT [.bool (decide ((doneOf B)<(B.deps.length:Int)))]<|⟨rB (by unfold runX runB;rw [decide_eq_true A0,getD_some hB,getD_some i0];first|rfl|(simp;omega)|(simp_all;done)|(simp_all;omega)),(d0.picks [4,4,4,4])⟩)⟩
theorem rx_run {W w:World} {p wb wo:Nat} {H:Chunk} {oa ba ca:Option Addr} {wn wk on ok bn bk cn ck:Nat} {ws:List Rk} {bs:List (Option BS)} {cx:List Bool} {ps:List (Option Nat)} {Wc Bc Cc:Chunk} {bcs F:List Chunk} {K:Int} (hOw:OwnT encRk 208 5 (some ⟨wb,wo,none⟩) wn wk ws Wc) (hOb:OwnT encPO 96 1 ba bn bk ps Bc) (hOc:OwnT encKB 4 1 ca cn ck cx Cc) (hBs:Obs RBd ps bs bcs) (hcl:cx.length=bs.length) (hBW:∀B,some B∈bs->BWf B K) (x:Int) (hS:Sat W w ([(p, .cells #[.slice (some ⟨wb,wo,none⟩) wn wk, .slice oa on ok, .slice ba bn bk, .slice ca cn ck] 154 (0,0))]::Wc::Bc::Cc::bcs.flatten::H::F)):
  Calls prog 162 #[Pt p 0,I x] w fun e w'=>e= .returned (.bool (runX bs cx x))/\Sat W w' ([(p, .cells #[.slice (some ⟨wb,wo,none⟩) wn wk, .slice oa on ok, .slice ba bn bk, .slice ca cn ck] 154 (0,0))]::Wc::Bc::Cc::bcs.flatten::H::F):=by
 by_cases hk:0<=x/\x<(bs.length:Int)
 ·cases hB:bs[x.toNat]? with
  |none=>have:=List.getElem?_eq_none_iff.1 hB;omega
  |some s=>
   cases s with
   |none=>exact rx_run_n hOw hOb hOc hBs hcl hBW x hB hk.1 hS
   |some B=>exact rx_run_s hOw hOb hOc hBs hcl hBW x hB hk.1 hS
 ·exact rx_run_o hOw hOb hOc hBs hcl hBW x hk hS
theorem rx_holds {p wb wo:Nat} {H:Chunk} {oa ba ca:Option Addr} {wn wk on ok bn bk cn ck:Nat} {ws:List Rk} {bs:List (Option BS)} {cx:List Bool} {ps:List (Option Nat)} {Wc Bc Cc:Chunk} {bcs F:List Chunk} {K:Int} (hOw:OwnT encRk 208 5 (some ⟨wb,wo,none⟩) wn wk ws Wc) (hOb:OwnT encPO 96 1 ba bn bk ps Bc) (hOc:OwnT encKB 4 1 ca cn ck cx Cc) (hBs:Obs RBd ps bs bcs) (hcl:cx.length=bs.length) (hBW:∀B,some B∈bs->BWf B K) (x:Int) (v:Rk) (hv:ws[x.toNat]?=some v) (h0:0<=x) (hS:Sat W w ([(p, .cells #[.slice (some ⟨wb,wo,none⟩) wn wk, .slice oa on ok, .slice ba bn bk, .slice ca cn ck] 154 (0,0))]::Wc::Bc::Cc::bcs.flatten::H::F)):
  Calls prog 167 #[Pt p 0,I x] w fun en w'=>en= .returned (.bool (holdX v))/\Sat W w' ([(p, .cells #[.slice (some ⟨wb,wo,none⟩) wn wk, .slice oa on ok, .slice ba bn bk, .slice ca cn ck] 154 (0,0))]::Wc::Bc::Cc::bcs.flatten::H::F):=by
 have n0:=hOw.ll;have j0:=hOb.ll;have g0:=hOc.ll;have k0:=hBs.1
 have o0:=(List.getElem?_eq_some_iff.1 hv).1
 refine callsK 24 func167 rfl<|gCO hS 12 [0] rfl<|sIO hOw x (x).toNat fun a0 _ _ b0 c0 d0=>?_
 obtain ⟨rfl,rfl⟩:=some_addr d0
 obtain rfl:v=a0:=Option.some.inj (hv.symm.trans b0)
 exact pu1<|sMp hS (c0.up 1 rfl) 0 (I v.phase)<|jOO 8 rfl<|sE 16 v.phase 1 (fun e0=>jOR 11 rfl<|retT [.bool true]<|⟨rB (by unfold holdX;exact (decide_eq_true om).symm),hS⟩) fun e0=>pu4<|sE 20 v.phase 2 (fun f0=>jOR 7 rfl<|retT [.bool true]<|⟨rB (by unfold holdX;exact (decide_eq_true om).symm),hS⟩) fun f0=>jOR 7 rfl<|retT [.bool ((v.phase:Int)==3)]<|⟨rB (by unfold holdX;exact (by rw [Bool.eq_iff_iff];simp only [decide_eq_true_eq,beq_iff_eq];omega)),hS⟩
theorem rx_busy {p wb wo:Nat} {H:Chunk} {oa ba ca:Option Addr} {wn wk on ok bn bk cn ck:Nat} {ws:List Rk} {bs:List (Option BS)} {cx:List Bool} {ps:List (Option Nat)} {Wc Bc Cc:Chunk} {bcs F:List Chunk} {K:Int} (hOw:OwnT encRk 208 5 (some ⟨wb,wo,none⟩) wn wk ws Wc) (hOb:OwnT encPO 96 1 ba bn bk ps Bc) (hOc:OwnT encKB 4 1 ca cn ck cx Cc) (hBs:Obs RBd ps bs bcs) (hcl:cx.length=bs.length) (hBW:∀B,some B∈bs->BWf B K) (x:Int) (v:Rk) (hv:ws[x.toNat]?=some v) (h0:0<=x) (hS:Sat W w ([(p, .cells #[.slice (some ⟨wb,wo,none⟩) wn wk, .slice oa on ok, .slice ba bn bk, .slice ca cn ck] 154 (0,0))]::Wc::Bc::Cc::bcs.flatten::H::F)):
  Calls prog 168 #[Pt p 0,I x] w fun en w'=>en= .returned (.bool (busyX bs cx v))/\Sat W w' ([(p, .cells #[.slice (some ⟨wb,wo,none⟩) wn wk, .slice oa on ok, .slice ba bn bk, .slice ca cn ck] 154 (0,0))]::Wc::Bc::Cc::bcs.flatten::H::F):=by
 have q0:=hOw.ll;have m0:=hOb.ll;have k0:=hOc.ll;have n0:=hBs.1
 have r0:=(List.getElem?_eq_some_iff.1 hv).1
 refine callsK 21 func168 rfl<|jCO 9 rfl ?_
 have c0:=(hS.picks [5,5,5,5,5,5])
 refine cZ (rx_holds hOw hOb hOc hBs hcl hBW x v hv om c0) ?_
 rintro _ _ ⟨rfl,a0⟩
 refine pu1<|SB 8 (holdX v) (fun b0=>jOR 16 rfl<|retT [.bool false]<|⟨rB (by unfold busyX;rw [Bool.eq_false_iff.2 b0];simp),a0⟩) fun b0=>gOO a0 6 [0] rfl<|gY<|sIO hOw x (x).toNat fun d0 _ _ e0 f0 g0=>?_
 obtain ⟨rfl,rfl⟩:=some_addr g0
 obtain rfl:v=d0:=Option.some.inj (hv.symm.trans e0)
 refine pu2<|gY<|sMp a0 (f0.up 1 rfl) 3 (I v.heldJob)<|gY ?_
 have i0:=(a0.picks [5,5,5,5,5,5])
 refine cZ (rx_run hOw hOb hOc hBs hcl hBW v.heldJob i0) ?_
 rintro _ _ ⟨rfl,j0⟩
 exact jOR 5 rfl<|retT [.bool (runX bs cx v.heldJob)]<|⟨rB (by unfold busyX;rw [b0];simp),j0⟩
theorem rx_ready {p wb wo:Nat} {H:Chunk} {oa ba ca:Option Addr} {wn wk on ok bn bk cn ck:Nat} {ws:List Rk} {bs:List (Option BS)} {cx:List Bool} {ps:List (Option Nat)} {Wc Bc Cc:Chunk} {bcs F:List Chunk} {K:Int} (hOw:OwnT encRk 208 5 (some ⟨wb,wo,none⟩) wn wk ws Wc) (hOb:OwnT encPO 96 1 ba bn bk ps Bc) (hOc:OwnT encKB 4 1 ca cn ck cx Cc) (hBs:Obs RBd ps bs bcs) (hcl:cx.length=bs.length) (hBW:∀B,some B∈bs->BWf B K) (hS:Sat W w ([(p, .cells #[.slice (some ⟨wb,wo,none⟩) wn wk, .slice oa on ok, .slice ba bn bk, .slice ca cn ck] 154 (0,0))]::Wc::Bc::Cc::bcs.flatten::H::F)):
  Calls prog 169 #[Pt p 0] w fun en w'=>en= .returned (.bool (readyX bs cx))/\Sat W w' ([(p, .cells #[.slice (some ⟨wb,wo,none⟩) wn wk, .slice oa on ok, .slice ba bn bk, .slice ca cn ck] 154 (0,0))]::Wc::Bc::Cc::bcs.flatten::H::F):=by
 have F0:=hOw.ll;have B0:=hOb.ll;have z0:=hOc.ll;have C0:=hBs.1
 refine callsK 28 func169 rfl<|jCC 12 rfl<|loopF [0] (γ:=Nat) (fun i R=>⟨[(3,I (i:Int))],R,bn-i,i<=bn/\((List.range i).any (fun j=>rdyX (cx.getD j false) (bs.getD j none))=false)⟩) 0 ⟨hS,om,rfl⟩ ?_
 rintro i ρ _ ⟨d0,hi,hN⟩
 refine gCC d0 12 [0] rfl<|CD ((i:Int)<(bn:Int)) (fun j0=>jCR 11 rfl<|retT [.bool false]<|⟨rB (by unfold readyX;rw [show bs.length=i by omega];exact hN.symm),d0⟩) fun j0=>jCO 8 rfl ?_
 have k0:=(d0.picks [5,5,5,5,5,5])
 refine cZ (rx_run hOw hOb hOc hBs hcl hBW (i:Int) k0) ?_
 rintro _ _ ⟨rfl,c0⟩
 refine pu1<|SB 16 (runX bs cx (i:Int)) (fun b0=>jOO 19 rfl<|sAdd (i:Int) 1<|jOI 2 rfl<|⟨i+1,od,alB,c0,om,(any_range_succ hN (rdyX_no om b0))⟩) fun b0=>gOO c0 5 [0] rfl<|gY ?_
 obtain ⟨c1,a0,_,_,_,_⟩:=runX_some b0;rw [Int.toNat_natCast] at a0
 obtain ⟨d1,g0⟩:∃y,ps[i]?=some y:=⟨_,List.getElem?_eq_getElem (by have h9:=(List.getElem?_eq_some_iff.1 a0).1;omega)⟩
 obtain ⟨e1,l0,m0,e0,n0⟩:=Obs.get hBs g0
 obtain rfl:=Option.some.inj (m0.symm.trans a0)
 obtain ⟨h0,rfl,o0⟩:=rbd_some n0
 refine sIO hOb (i:Int) i fun p0 _ _ q0 r0 _=>?_
 obtain rfl:(some h0)=p0:=Option.some.inj (g0.symm.trans q0)
 refine gY<|sMp c0 (r0.up 2 rfl) 0 (Pt h0 0)<|gY ?_
 have s0:=(c0.pick 4 rfl)
 refine cZ (r_ready o0 (hBW _ (List.mem_of_getElem? a0)) (Sat.flat1 (Sat.openN (A:=[]) (i) e0 s0))) ?_
 rintro _ _ ⟨_,u0,_,_,rfl,i0,v0⟩
 have w0:=(Sat.unflat2 v0).dropAt 0 rfl;have y0:=i0.ll
 have f0:=Sat.shutN (d:=l0) (A:=[]) (i) e0 w0;rw [set_same e0] at f0
 refine jOC 5 rfl<|CD ((u0:Int)>0) (fun x0=>jCO 5 rfl<|sAdd (i:Int) 1<|jOI 2 rfl<|⟨i+1,od,alB,(f0.picks [4,4,4,4]),om,(any_range_succ hN (by rw [rdyX_at a0 b0];exact decide_eq_false om))⟩) fun x0=>jCR 11 rfl<|retT [.bool true] ?_
 exact ⟨rB (Eq.symm (show readyX bs cx=true by unfold readyX;exact List.any_eq_true.2 ⟨i,List.mem_range.2 (by have h9:=(List.getElem?_eq_some_iff.1 a0).1;omega),by rw [rdyX_at a0 b0];exact decide_eq_true om⟩)),(f0.picks [4,4,4,4])⟩
theorem rx_fits {p wb wo:Nat} {H:Chunk} {oa ba ca:Option Addr} {wn wk on ok bn bk cn ck:Nat} {ws:List Rk} {bs:List (Option BS)} {cx:List Bool} {ps:List (Option Nat)} {Wc Bc Cc:Chunk} {bcs F:List Chunk} {K:Int} (hOw:OwnT encRk 208 5 (some ⟨wb,wo,none⟩) wn wk ws Wc) (hOb:OwnT encPO 96 1 ba bn bk ps Bc) (hOc:OwnT encKB 4 1 ca cn ck cx Cc) (hBs:Obs RBd ps bs bcs) (hcl:cx.length=bs.length) (hBW:∀B,some B∈bs->BWf B K) (ev:Evt) (hS:Sat W w ([(p, .cells #[.slice (some ⟨wb,wo,none⟩) wn wk, .slice oa on ok, .slice ba bn bk, .slice ca cn ck] 154 (0,0))]::Wc::Bc::Cc::bcs.flatten::H::F)):
  Calls prog 160 #[Pt p 0, .agg (encEvt ev).toArray] w fun en w'=>en= .returned (.bool (fitsX ws.length ev))/\Sat W w' ([(p, .cells #[.slice (some ⟨wb,wo,none⟩) wn wk, .slice oa on ok, .slice ba bn bk, .slice ca cn ck] 154 (0,0))]::Wc::Bc::Cc::bcs.flatten::H::F):=by
 have A0:=hOw.ll;have t0:=hOb.ll;have q0:=hOc.ll;have v0:=hBs.1
 refine callsK 87 func160 rfl<|jCO 2 rfl<|sBx hS (encEvt ev) fun _ _ h0=>gOO h0 8 [0] rfl<|sAlloc h0 zeroValue63 fun o0 _ p0=>sTk p0 0 rfl [I ev.kind,I 0,I 0,I 0,I 0,I 0,I 0] fun _ c0=>gOO c0 9 [1] rfl<|sE 13 ev.kind 1 (fun e0=>gOO c0 12 [1] rfl<|tWk c0 0 rfl 3 (I ev.job) fun _ f0=>gOC f0 10 [1] rfl<|cT _ (beq_iff_eq.2 e0)<|gCO f0 4 [1] rfl<|tWk f0 0 rfl 6 (I ev.err) fun _ i0=>gOO i0 6 [701,700] rfl<|stepY (.bool (((ev.kind:Int)==ev.kind)&&((ev.worker:Int)==0)&&((ev.from_:Int)==0)&&((ev.job:Int)==ev.job)&&((ev.refJob:Int)==0)&&((ev.refTask:Int)==0)&&((ev.err:Int)==ev.err))) rfl rfl (Y_eqS rfl kr kr (eqve63 _ ev.kind ev.worker ev.from_ ev.job ev.refJob ev.refTask ev.err ev.kind 0 0 ev.job 0 0 ev.err))<|jOR 5 rfl<|retT [.bool (((ev.kind:Int)==ev.kind)&&((ev.worker:Int)==0)&&((ev.from_:Int)==0)&&((ev.job:Int)==ev.job)&&((ev.refJob:Int)==0)&&((ev.refTask:Int)==0)&&((ev.err:Int)==ev.err))]<|⟨rB ((evtB ev _ _ _ _ _ _ _).trans (by unfold fitsX wantX;rw [if_pos om];first|rw [if_pos om]|rw [if_neg om,if_pos om])),(i0.drops [0,0])⟩) fun e0=>?_
 refine gOC c0 6 [1] rfl<|cE ev.kind 2 (fun r0=>gCO c0 5 [1] rfl<|tWk c0 0 rfl 3 (I ev.job) fun _ g0=>gOC g0 10 [1] rfl<|cF _ (beq_eq_false_iff_ne.2 e0)<|gCO g0 6 [701,700] rfl<|stepY (.bool (((ev.kind:Int)==ev.kind)&&((ev.worker:Int)==0)&&((ev.from_:Int)==0)&&((ev.job:Int)==ev.job)&&((ev.refJob:Int)==0)&&((ev.refTask:Int)==0)&&((ev.err:Int)==0))) rfl rfl (Y_eqS rfl kr kr (eqve63 _ ev.kind ev.worker ev.from_ ev.job ev.refJob ev.refTask ev.err ev.kind 0 0 ev.job 0 0 0))<|jOR 5 rfl<|retT [.bool (((ev.kind:Int)==ev.kind)&&((ev.worker:Int)==0)&&((ev.from_:Int)==0)&&((ev.job:Int)==ev.job)&&((ev.refJob:Int)==0)&&((ev.refTask:Int)==0)&&((ev.err:Int)==0))]<|⟨rB ((evtB ev _ _ _ _ _ _ _).trans (by unfold fitsX wantX;rw [if_pos om];first|rw [if_pos om]|rw [if_neg om,if_pos om])),(g0.drops [0,0])⟩) fun r0=>gCO c0 7 [1] rfl<|tWk c0 0 rfl 1 (I ev.worker) fun _ a0=>jOC 2 rfl<|cutF a0 1 [0,3,5] (γ:=Evt) (fun y R=>⟨[],[(o0, .cells (encEvt y).toArray 63 (0,0))]::R,0,y=wantX ev⟩) ?_ ?_
 rotate_left
 · exact (by rintro y ρ _ ⟨b0,hy⟩;exact gCO b0 14 [2,701,700] rfl<|stepY (.bool (((ev.kind:Int)==y.kind)&&((ev.worker:Int)==y.worker)&&((ev.from_:Int)==y.from_)&&((ev.job:Int)==y.job)&&((ev.refJob:Int)==y.refJob)&&((ev.refTask:Int)==y.refTask)&&((ev.err:Int)==y.err))) rfl rfl (Y_eqS rfl kr kr (eqve63 _ ev.kind ev.worker ev.from_ ev.job ev.refJob ev.refTask ev.err y.kind y.worker y.from_ y.job y.refJob y.refTask y.err))<|pu1<|bC ((ev.kind:Int)=y.kind/\(ev.worker:Int)=y.worker/\(ev.from_:Int)=y.from_/\(ev.job:Int)=y.job/\(ev.refJob:Int)=y.refJob/\(ev.refTask:Int)=y.refTask/\(ev.err:Int)=y.err) (fun d0=>sFix 65 _ false (show (((ev.kind:Int)==y.kind)&&((ev.worker:Int)==y.worker)&&((ev.from_:Int)==y.from_)&&((ev.job:Int)==y.job)&&((ev.refJob:Int)==y.refJob)&&((ev.refTask:Int)==y.refTask)&&((ev.err:Int)==y.err))=false from by rw [<-Bool.not_eq_true];intro h_;exact d0 (by simpa [and_assoc] using h_))<|jOR 25 rfl<|retT [.bool false]<|⟨rB (by unfold fitsX;rw [if_neg om,decide_eq_false (fun h=>d0 (evt_eqs (h.1.trans hy.symm)))]),(b0.drops [0,0])⟩) fun d0=>sFix 65 _ true (show (((ev.kind:Int)==y.kind)&&((ev.worker:Int)==y.worker)&&((ev.from_:Int)==y.from_)&&((ev.job:Int)==y.job)&&((ev.refJob:Int)==y.refJob)&&((ev.refTask:Int)==y.refTask)&&((ev.err:Int)==y.err))=true from by simpa [and_assoc] using d0)<|gOO b0 5 [1] rfl<|SD 70 (ev.worker>=0) (fun u0=>jOR 20 rfl<|retT [.bool false]<|⟨rB (by unfold fitsX;rw [if_neg om,decide_eq_false (fun ⟨_,h1,h2⟩=>by omega)]),(b0.drops [0,0])⟩) fun u0=>gOO b0 6 [1] rfl<|SD 76 (ev.worker<(wn:Int)) (fun w0=>jOR 14 rfl<|retT [.bool false]<|⟨rB (by unfold fitsX;rw [if_neg om,decide_eq_false (fun ⟨_,h1,h2⟩=>by omega)]),(b0.drops [0,0])⟩) fun w0=>gOO b0 5 [1] rfl<|SD 81 (ev.from_>=0) (fun y0=>jOR 9 rfl<|retT [.bool false]<|⟨rB (by unfold fitsX;rw [if_neg om,decide_eq_false (fun ⟨_,h1,h2⟩=>by omega)]),(b0.drops [0,0])⟩) fun y0=>gOR b0 9 [1] rfl<|retT [.bool (decide (ev.from_<(wn:Int)))]<|⟨rB (by unfold fitsX;rw [if_neg om,Bool.eq_iff_iff];simp only [decide_eq_true_eq];exact ⟨fun h=>⟨(evt_ext d0).trans hy,om,om⟩,fun ⟨_,_,h⟩=>by omega⟩),(b0.drops [0,0])⟩)
 refine gCC a0 14 [1] rfl<|cE ev.kind 3 (fun j0=>jCC 2 rfl<|cT _ (beq_iff_eq.2 j0)<|gCO a0 4 [201] rfl<|tWk a0 0 rfl 4 (.agg #[I ev.refJob,I ev.refTask]) fun _ b1=>jOI 2 rfl<|⟨(⟨ev.kind,ev.worker,0,0,ev.refJob,ev.refTask,0⟩:Evt),alB,b1,(by unfold wantX;first|(rw [if_neg om,if_neg om,if_pos om])|(rw [if_neg om,if_neg om,if_neg om,if_pos om])|(rw [if_neg om,if_neg om,if_neg om,if_neg om,if_pos om])|(rw [if_neg om,if_neg om,if_neg om,if_neg om,if_neg om]))⟩) fun j0=>jCC 6 rfl<|cE ev.kind 4 (fun k0=>jCC 2 rfl<|cT _ (beq_iff_eq.2 k0)<|gCO a0 4 [201] rfl<|tWk a0 0 rfl 4 (.agg #[I ev.refJob,I ev.refTask]) fun _ c1=>jOI 2 rfl<|⟨(⟨ev.kind,ev.worker,0,0,ev.refJob,ev.refTask,0⟩:Evt),alB,c1,(by unfold wantX;first|(rw [if_neg om,if_neg om,if_pos om])|(rw [if_neg om,if_neg om,if_neg om,if_pos om])|(rw [if_neg om,if_neg om,if_neg om,if_neg om,if_pos om])|(rw [if_neg om,if_neg om,if_neg om,if_neg om,if_neg om]))⟩) fun k0=>jCC 6 rfl<|cE ev.kind 8 (fun l0=>jCC 2 rfl<|cT _ (beq_iff_eq.2 l0)<|gCO a0 4 [201] rfl<|tWk a0 0 rfl 4 (.agg #[I ev.refJob,I ev.refTask]) fun _ d1=>jOI 2 rfl<|⟨(⟨ev.kind,ev.worker,0,0,ev.refJob,ev.refTask,0⟩:Evt),alB,d1,(by unfold wantX;first|(rw [if_neg om,if_neg om,if_pos om])|(rw [if_neg om,if_neg om,if_neg om,if_pos om])|(rw [if_neg om,if_neg om,if_neg om,if_neg om,if_pos om])|(rw [if_neg om,if_neg om,if_neg om,if_neg om,if_neg om]))⟩) fun l0=>?_
 exact jCC 6 rfl<|cE ev.kind 9 (fun m0=>jCC 2 rfl<|cT _ (beq_iff_eq.2 m0)<|gCO a0 4 [201] rfl<|tWk a0 0 rfl 4 (.agg #[I ev.refJob,I ev.refTask]) fun _ e1=>jOI 2 rfl<|⟨(⟨ev.kind,ev.worker,0,0,ev.refJob,ev.refTask,0⟩:Evt),alB,e1,(by unfold wantX;first|(rw [if_neg om,if_neg om,if_pos om])|(rw [if_neg om,if_neg om,if_neg om,if_pos om])|(rw [if_neg om,if_neg om,if_neg om,if_neg om,if_pos om])|(rw [if_neg om,if_neg om,if_neg om,if_neg om,if_neg om]))⟩) fun m0=>jCC 5 rfl<|cE ev.kind 10 (fun f1=>gCO a0 4 [201] rfl<|tWk a0 0 rfl 4 (.agg #[I ev.refJob,I ev.refTask]) fun _ g1=>jOI 2 rfl<|⟨(⟨ev.kind,ev.worker,0,0,ev.refJob,ev.refTask,0⟩:Evt),alB,g1,(by unfold wantX;first|(rw [if_neg om,if_neg om,if_pos om])|(rw [if_neg om,if_neg om,if_neg om,if_pos om])|(rw [if_neg om,if_neg om,if_neg om,if_neg om,if_pos om])|(rw [if_neg om,if_neg om,if_neg om,if_neg om,if_neg om]))⟩) fun f1=>jCC 6 rfl<|cE ev.kind 5 (fun i1=>drawF a0 [5,7] (fb 1 1 4 2<|fb 3 1 2 1<|fn) [0,2,1,4,3,5,6,7] fun _ j1=>wV 2<|wG 0 2<|wV 1<|wL 2<|wO rfl<|tWk j1 0 rfl 4 (.agg #[I ev.refJob,I ev.refTask]) fun _ n0=>nZ n0 [1]<|wV 1<|wO rfl<|tWk n0 0 rfl 2 (I ev.from_) fun _ k1=>nA<|wN<|jXI 1 rfl<|⟨(⟨ev.kind,ev.worker,ev.from_,0,ev.refJob,ev.refTask,0⟩:Evt),alB,k1,(by unfold wantX;first|(rw [if_neg om,if_neg om,if_pos om])|(rw [if_neg om,if_neg om,if_neg om,if_pos om])|(rw [if_neg om,if_neg om,if_neg om,if_neg om,if_pos om])|(rw [if_neg om,if_neg om,if_neg om,if_neg om,if_neg om]))⟩) fun i1=>jCC 6 rfl<|CE ev.kind 12 (fun l1=>jCI 2 rfl<|⟨(⟨ev.kind,ev.worker,0,0,0,0,0⟩:Evt),alB,a0,(by unfold wantX;first|(rw [if_neg om,if_neg om,if_pos om])|(rw [if_neg om,if_neg om,if_neg om,if_pos om])|(rw [if_neg om,if_neg om,if_neg om,if_neg om,if_pos om])|(rw [if_neg om,if_neg om,if_neg om,if_neg om,if_neg om]))⟩) fun l1=>gCO a0 4 [1] rfl<|tWk a0 0 rfl 2 (I ev.from_) fun _ m1=>jOI 2 rfl<|⟨(⟨ev.kind,ev.worker,ev.from_,0,0,0,0⟩:Evt),alB,m1,(by unfold wantX;first|(rw [if_neg om,if_neg om,if_pos om])|(rw [if_neg om,if_neg om,if_neg om,if_pos om])|(rw [if_neg om,if_neg om,if_neg om,if_neg om,if_pos om])|(rw [if_neg om,if_neg om,if_neg om,if_neg om,if_neg om]))⟩
end Go.Proofs.YtkadmghedmodbaaGreat

namespace Go.Proofs.YtkadmghedmodbaaGreat
open Go Go.E Go.Proofs.Tryz
set_option linter.all false
set_option maxRecDepth 100000
set_option maxHeartbeats 2000000
variable {W w:World} {H:Chunk} {F:List Chunk}
instance:Inhabited Task:=⟨⟨0,0,0,0,0,0,⟨none,0,0,[]⟩,0,0⟩⟩
section
variable (off:List TL) (ws:List Rk) (bs:List (Option BS)) (cx:List Bool) (k:Nat) (v:Rk) (e:Evt) (l:List Evt)
def takeX:Option RS:=
  if v.phase≠0\/¬runX bs cx e.refJob=true\/(e.kind=5/\e.from_=e.worker) then none
  else match bs.getD e.refJob.toNat none with
  |none=>none
  |some B=>if (startB B e.refTask).2.2≠0 then none else some ⟨ws.set k ⟨1,0,(startB B e.refTask).2.1,e.refJob,e.refTask⟩,bs.set e.refJob.toNat (some (startB B e.refTask).1),cx⟩
def rowsX:Int:=(((off.map fun z:TL=>z.l.l).getD v.heldJob.toNat []).getD v.heldTask.toNat default).rows
def microX:Option RS:=
  if ¬busyX bs cx v=true then none
  else if e.kind=6/\v.phase=1 then some ⟨ws.set k {v with phase:=2},bs,cx⟩
  else if e.kind=7/\v.phase=2 then some ⟨ws.set k {v with row:=v.row+1,phase:=if v.row+1=rowsX off v then 3 else 2},bs,cx⟩
  else if e.kind=8/\v.phase=3/\e.refJob=v.heldJob/\e.refTask=v.heldTask then
    match bs.getD v.heldJob.toNat none with
    |none=>none
    |some B=>some ⟨ws.set k ⟨0,0,0,0,0⟩,bs.set v.heldJob.toNat (some (comB B v.heldTask v.attempt).1),cx⟩
  else none
def crashX:Option RS:=
  if v.phase=4\/¬(e.refJob=v.heldJob/\e.refTask=v.heldTask) then none
  else if busyX bs cx v=true then
    match bs.getD v.heldJob.toNat none with
    |none=>none
    |some B=>some ⟨ws.set k ⟨4,0,0,0,0⟩,bs.set v.heldJob.toNat (some (retB B v.heldTask v.attempt)),cx⟩
  else some ⟨ws.set k ⟨4,0,0,0,0⟩,bs,cx⟩
def submitX:Option RS:=
  if e.job≠((bs.length:Nat):Int) then none
  else if e.err≠0 then some ⟨ws,bs++[none],cx++[false]⟩
  else match off[e.job.toNat]? with
  |none=>none
  |some T=>if validC T.l.l≠0 then none else some ⟨ws,bs++[some (newB T.l.l)],cx++[false]⟩
def helpX:Bool:=decide (v.phase=0/\e.from_≠e.worker)&&(busyX bs cx (ws.getD e.from_.toNat default)&&(!readyX bs cx&&(match l.head? with|none=>false|some n=>decide (n.worker=e.from_/\(n.kind=6\/n.kind=7\/n.kind=8)))))
end
theorem rbd_put {ps:List (Option Nat)} {bs:List (Option BS)} {bcs:List Chunk} (h:Obs RBd ps bs bcs) {k q:Nat} {B:BS} {c:Chunk} (hp:ps[k]?=some (some q)) (hR:RefR q B c):Obs RBd ps (bs.set k (some B)) (bcs.set k c):=h.set hp (.inr ⟨q,B,rfl,rfl,hR⟩)
theorem rowsX_at {off:List TL} {v:Rk} {T:TL} {t:Task} (hT:off[v.heldJob.toNat]?=some T) (ht:T.l.l[v.heldTask.toNat]?=some t):rowsX off v=t.rows:=by
  have h:(off.map fun z:TL=>z.l.l)[v.heldJob.toNat]?=some T.l.l:=by rw [List.getElem?_map,hT];rfl
  unfold rowsX;rw [getD_some h,getD_some ht]
theorem busyX_run {bs:List (Option BS)} {cx:List Bool} {v:Rk} (h:busyX bs cx v=true):runX bs cx v.heldJob=true:=((Bool.and_eq_true _ _).mp h).2
def eventX (off:List TL) (ws:List Rk) (bs:List (Option BS)) (cx:List Bool) (e:Evt) (l:List Evt):Option RS:=
  if ¬((1<=e.kind/\e.kind<=13)/\fitsX ws.length e=true) then none
  else if e.kind=1 then submitX off ws bs cx e
  else if e.kind=2 then (if runX bs cx e.job=true then some ⟨ws,bs,cx.set e.job.toNat true⟩ else none)
  else if e.kind=3\/e.kind=4\/e.kind=5 then takeX ws bs cx e.worker.toNat (ws.getD e.worker.toNat default) e
  else if e.kind=6\/e.kind=7\/e.kind=8 then microX off ws bs cx e.worker.toNat (ws.getD e.worker.toNat default) e
  else if e.kind=10 then crashX ws bs cx e.worker.toNat (ws.getD e.worker.toNat default) e
  else if e.kind=12 then (if helpX ws bs cx (ws.getD e.worker.toNat default) e l=true then some ⟨ws,bs,cx⟩ else none)
  else if e.kind=9 then (if holdX (ws.getD e.worker.toNat default)=true/\((ws.getD e.worker.toNat default).heldJob=e.refJob/\(ws.getD e.worker.toNat default).heldTask=e.refTask)/\cx.getD e.refJob.toNat false=true then some ⟨ws.set e.worker.toNat ⟨0,0,0,0,0⟩,bs,cx⟩ else none)
  else if e.kind=11 then (if (ws.getD e.worker.toNat default).phase=4 then some ⟨ws.set e.worker.toNat ⟨0,0,0,0,0⟩,bs,cx⟩ else none)
  else (if ws.any (busyX bs cx)=true then none else if (ws.getD e.worker.toNat default).phase=0/\¬readyX bs cx=true then some ⟨ws,bs,cx⟩ else none)
theorem fits_in {n:Nat} {e:Evt} (h:fitsX n e=true) (hn:1<=n):(0<=e.worker/\e.worker<(n:Int))/\0<=e.from_/\e.from_<(n:Int):=by
  unfold fitsX at h
  split at h
  · rename_i hk
    have h1:=of_decide_eq_true h
    have h2:e.worker=0/\e.from_=0:=by
      unfold wantX at h1
      rcases hk with hk|hk
      · rw [if_pos hk] at h1;exact ⟨congrArg Evt.worker h1,congrArg Evt.from_ h1⟩
      · rw [if_neg (by omega),if_pos hk] at h1;exact ⟨congrArg Evt.worker h1,congrArg Evt.from_ h1⟩
    omega
  · exact (of_decide_eq_true h).2
section
variable {off:List TL} {ws:List Rk} {bs:List (Option BS)} {cx:List Bool} {v:Rk} {e:Evt} {l:List Evt}
theorem evX_no (h:¬((1<=e.kind/\e.kind<=13)/\fitsX ws.length e=true)):eventX off ws bs cx e l=none:=by unfold eventX;rw [if_pos h]
theorem evX_1 (hf:fitsX ws.length e=true) (h:e.kind=1):eventX off ws bs cx e l=submitX off ws bs cx e:=by unfold eventX;rw [if_neg (fun k=>k ⟨by omega,hf⟩),if_pos h]
theorem evX_2 (hf:fitsX ws.length e=true) (h:e.kind=2):eventX off ws bs cx e l=(if runX bs cx e.job=true then some ⟨ws,bs,cx.set e.job.toNat true⟩ else none):=by unfold eventX;rw [if_neg (fun k=>k ⟨by omega,hf⟩),if_neg (by omega),if_pos h]
theorem evX_3 (hf:fitsX ws.length e=true) (hv:ws[e.worker.toNat]?=some v) (h:e.kind=3\/e.kind=4\/e.kind=5):eventX off ws bs cx e l=takeX ws bs cx e.worker.toNat v e:=by unfold eventX;rw [if_neg (fun k=>k ⟨by omega,hf⟩),if_neg (by omega),if_neg (by omega),if_pos h,getD_some hv]
theorem evX_6 (hf:fitsX ws.length e=true) (hv:ws[e.worker.toNat]?=some v) (h:e.kind=6\/e.kind=7\/e.kind=8):eventX off ws bs cx e l=microX off ws bs cx e.worker.toNat v e:=by unfold eventX;rw [if_neg (fun k=>k ⟨by omega,hf⟩),if_neg (by omega),if_neg (by omega),if_neg (by omega),if_pos h,getD_some hv]
theorem evX_10 (hf:fitsX ws.length e=true) (hv:ws[e.worker.toNat]?=some v) (h:e.kind=10):eventX off ws bs cx e l=crashX ws bs cx e.worker.toNat v e:=by unfold eventX;rw [if_neg (fun k=>k ⟨by omega,hf⟩),if_neg (by omega),if_neg (by omega),if_neg (by omega),if_neg (by omega),if_pos h,getD_some hv]
theorem evX_12 (hf:fitsX ws.length e=true) (hv:ws[e.worker.toNat]?=some v) (h:e.kind=12):eventX off ws bs cx e l=(if helpX ws bs cx v e l=true then some ⟨ws,bs,cx⟩ else none):=by unfold eventX;rw [if_neg (fun k=>k ⟨by omega,hf⟩),if_neg (by omega),if_neg (by omega),if_neg (by omega),if_neg (by omega),if_neg (by omega),if_pos h,getD_some hv]
theorem evX_9 (hf:fitsX ws.length e=true) (hv:ws[e.worker.toNat]?=some v) (h:e.kind=9):eventX off ws bs cx e l=(if holdX v=true/\(v.heldJob=e.refJob/\v.heldTask=e.refTask)/\cx.getD e.refJob.toNat false=true then some ⟨ws.set e.worker.toNat ⟨0,0,0,0,0⟩,bs,cx⟩ else none):=by
  unfold eventX;rw [if_neg (fun k=>k ⟨by omega,hf⟩),if_neg (by omega),if_neg (by omega),if_neg (by omega),if_neg (by omega),if_neg (by omega),if_neg (by omega),if_pos h,getD_some hv]
theorem evX_11 (hf:fitsX ws.length e=true) (hv:ws[e.worker.toNat]?=some v) (h:e.kind=11):eventX off ws bs cx e l=(if v.phase=4 then some ⟨ws.set e.worker.toNat ⟨0,0,0,0,0⟩,bs,cx⟩ else none):=by
  unfold eventX;rw [if_neg (fun k=>k ⟨by omega,hf⟩),if_neg (by omega),if_neg (by omega),if_neg (by omega),if_neg (by omega),if_neg (by omega),if_neg (by omega),if_neg (by omega),if_pos h,getD_some hv]
theorem evX_13 (hf:fitsX ws.length e=true) (hv:ws[e.worker.toNat]?=some v) (h:e.kind=13):eventX off ws bs cx e l=(if ws.any (busyX bs cx)=true then none else if v.phase=0/\¬readyX bs cx=true then some ⟨ws,bs,cx⟩ else none):=by
  unfold eventX;rw [if_neg (fun k=>k ⟨by omega,hf⟩),if_neg (by omega),if_neg (by omega),if_neg (by omega),if_neg (by omega),if_neg (by omega),if_neg (by omega),if_neg (by omega),if_neg (by omega),getD_some hv]
end
def WsX (off:List TL) (ws:List Rk) (bs:List (Option BS)) (cx:List Bool):Prop:=∀v∈ws,(0<=v.row/\v.row<=1000000)/\(holdX v=true->0<=v.heldJob/\v.heldJob<((bs.length:Nat):Int))/\
  (busyX bs cx v=true->∃(T:TL) (t:Task),off[v.heldJob.toNat]?=some T/\T.l.l[v.heldTask.toNat]?=some t/\0<=v.heldJob/\0<=v.heldTask)
theorem any_takeX {α:Type} {ws:List α} {f:α->Bool} {i:Nat} {x:α} (hx:ws[i]?=some x) (h:(ws.take i).any f=false) (hf:f x=false):(ws.take (i+1)).any f=false:=by
  rw [take_succ_at hx,List.any_append,h];simp [hf]
theorem rx_take {p wb wo:Nat} {H:Chunk} {oa ba ca:Option Addr} {wn wk on ok bn bk cn ck:Nat} {ws:List Rk} {bs:List (Option BS)} {cx:List Bool} {ps:List (Option Nat)} {Wc Bc Cc:Chunk} {bcs F:List Chunk} {K:Int} (hOw:OwnT encRk 208 5 (some ⟨wb,wo,none⟩) wn wk ws Wc) (hOb:OwnT encPO 96 1 ba bn bk ps Bc) (hOc:OwnT encKB 4 1 ca cn ck cx Cc) (hBs:Obs RBd ps bs bcs) (hcl:cx.length=bs.length) (hBW:∀B,some B∈bs->BWf B K) {off:List TL} (hOo:RdT encTL 1 [H] oa on ok off) (hDo:∀z∈off,TL.Ok [H] z) (e:Evt) (v:Rk) (hv:ws[e.worker.toNat]?=some v) (h0:0<=e.worker) (hKb:K<=1000000) (hbl9:bs.length<=1000000) (hS:Sat W w ([(p, .cells #[.slice (some ⟨wb,wo,none⟩) wn wk, .slice oa on ok, .slice ba bn bk, .slice ca cn ck] 154 (0,0))]::Wc::Bc::Cc::bcs.flatten::H::F)):
  Calls prog 163 #[Pt p 0, .agg (encEvt e).toArray] w fun en w'=>(takeX ws bs cx e.worker.toNat v e=none/\en= .returned (.bool false)/\∃M':Chunk,Sat W w' (M'::H::F))\/(∃(r':RS) (M':Chunk),takeX ws bs cx e.worker.toNat v e=some r'/\en= .returned (.bool true)/\RsM p wb wo H off r' M'/\Sat W w' (M'::H::F)):=by
 have I0:=hOw.ll;have D0:=hOb.ll;have A0:=hOc.ll;have E0:=hBs.1
 have J0:=(List.getElem?_eq_some_iff.1 hv).1;have G0:=hOo.ll
 refine callsK 64 func163 rfl<|jCO 2 rfl<|sBx hS (encEvt e) fun _ _ t0=>jOC 4 rfl ?_
 obtain ⟨u0,c3,d3,m0,v0,w0,x0⟩:=OwnT.elem hOw e.worker
 obtain ⟨rfl,rfl⟩:=some_addr x0
 obtain rfl:v=u0:=Option.some.inj (hv.symm.trans m0)
 refine drawF t0 [] (fb 3 1 0 1<|fb 5 0 1 1<|fn) [0,1,2,4,3,5,6,7] fun _ g0=>wV 4<|wL 0<|wL 1<|wI w0<|wV 1<|wN<|jXO 7 rfl<|sMp g0 (v0.up 2 rfl) 0 (I v.phase)<|pu2<|SN 20 v.phase 0 (fun y0=>jOR 29 rfl<|retT [.bool false]<|(by have z0:=(g0.dropAt 0 rfl);have a1:Sat W _ (([(p, .cells #[.slice (some ⟨wb,wo,none⟩) wn wk, .slice oa on ok, .slice ba bn bk, .slice ca cn ck] 154 (0,0))]++Wc++Bc++Cc++bcs.flatten)::H::F):=Sat.perm (show Sat W _ ([(p, .cells #[.slice (some ⟨wb,wo,none⟩) wn wk, .slice oa on ok, .slice ba bn bk, .slice ca cn ck] 154 (0,0))]::Wc::Bc::Cc::bcs.flatten::H::F) from z0) (by simp);exact .inl ⟨by unfold takeX;rw [if_pos (.inl om)],rfl,_,a1⟩)) fun y0=>gOO g0 4 [0] rfl<|gY ?_
 have b1:=(g0.picks [6,6,6,6,6,6])
 refine cZ (rx_run hOw hOb hOc hBs hcl hBW e.refJob b1) ?_
 rintro _ _ ⟨rfl,b0⟩
 refine pu3<|SBn 28 (runX bs cx e.refJob) (fun a0=>jOR 21 rfl<|retT [.bool false]<|(by have c1:=(b0.dropAt 6 rfl);have d1:Sat W _ (([(p, .cells #[.slice (some ⟨wb,wo,none⟩) wn wk, .slice oa on ok, .slice ba bn bk, .slice ca cn ck] 154 (0,0))]++Wc++Bc++Cc++bcs.flatten)::H::F):=Sat.perm (show Sat W _ ([(p, .cells #[.slice (some ⟨wb,wo,none⟩) wn wk, .slice oa on ok, .slice ba bn bk, .slice ca cn ck] 154 (0,0))]::Wc::Bc::Cc::bcs.flatten::H::F) from c1) (by simp);exact .inl ⟨by unfold takeX;rw [if_pos (.inr (.inl a0))],rfl,_,d1⟩)) fun a0=>gOO b0 4 [6] rfl<|sE 32 e.kind 5 (fun e1=>?_) (fun e1=>?_)
 rotate_left
 ·refine jOC 13 rfl ?_
  obtain ⟨i0,c0,f3,g3,_,_⟩:=runX_some a0
  obtain ⟨h3,n0⟩:∃y,ps[e.refJob.toNat]?=some y:=⟨_,List.getElem?_eq_getElem (by have h9:=(List.getElem?_eq_some_iff.1 c0).1;omega)⟩
  obtain ⟨i3,j3,f1,p0,g1⟩:=Obs.get hBs n0
  obtain rfl:=Option.some.inj (f1.symm.trans c0)
  obtain ⟨h1,rfl,i1⟩:=rbd_some g1
  obtain ⟨j1,k3,l3,k1,l1,m1,m3⟩:=OwnT.elem hOb e.refJob
  obtain rfl:(some h1)=j1:=Option.some.inj (n0.symm.trans k1)
  refine drawF b0 [12] (fb 3 0 2 1<|fb 6 6 4 1<|fq 8 0 (l1.up 2 rfl)<|fb 11 6 5 1<|fn) [0,1,2,4,5,9,10,3,6,7,8,11,12,13,14,15,16,17] fun _ n1=>wV 7<|wL 0<|wL 1<|wI m1<|wL 2<|wL 3<|wO rfl ?_
  have o1:=(n1.pick 4 rfl)
  refine cZ (r_start i1 (hBW _ (List.mem_of_getElem? c0)) e.refTask (Sat.flat1 (Sat.openN (A:=[]) (e.refJob.toNat) p0 o1))) ?_
  rintro _ _ ⟨d0,rfl,r1,s1⟩
  have j0:=Sat.shutN (d:=d0) (A:=[]) (e.refJob.toNat) p0 (Sat.unflat1 s1);have t1:=rbd_put hBs n0 r1
  exact nZ j0 [1,6]<|wV 1<|wV 1<|wV 1<|wV 2<|wN<|jXC 8 rfl<|CN ((startB i0 e.refTask).2.2) 0 (fun u1=>jCR 7 rfl<|retT [.bool false]<|(by have v1:=((j0.pick 1 rfl).dropAt 6 rfl);have w1:Sat W _ (([(p, .cells #[.slice (some ⟨wb,wo,none⟩) wn wk, .slice oa on ok, .slice ba bn bk, .slice ca cn ck] 154 (0,0))]++(bcs.set (e.refJob.toNat) d0).flatten++Wc++Bc++Cc)::H::F):=Sat.perm (show Sat W _ ([(p, .cells #[.slice (some ⟨wb,wo,none⟩) wn wk, .slice oa on ok, .slice ba bn bk, .slice ca cn ck] 154 (0,0))]::(bcs.set (e.refJob.toNat) d0).flatten::Wc::Bc::Cc::H::F) from v1) (by simp);exact .inl ⟨by unfold takeX;rw [if_neg (by rintro (h|h|h);omega;exact h a0;omega),getD_some c0];dsimp only;rw [if_pos om],rfl,_,w1⟩)) fun u1=>gCO j0 10 [206] rfl<|sStF j0 hOw rfl 2 (e.worker).toNat 0 v (⟨1,0,(startB i0 e.refTask).2.1,e.refJob,e.refTask⟩:Rk) m0 (.agg #[I 1,I 0,I ((startB i0 e.refTask).2.1),I e.refJob,I e.refTask]) [I 1,I 0,I ((startB i0 e.refTask).2.1),I e.refJob,I e.refTask] sizeOf208 fun _ q0 x1 y1=>jOR 8 rfl<|retT [.bool true]<|(by have z1:=((y1.picks [4,4,4,4]).dropAt 6 rfl);have a2:Sat W _ (([(p, .cells #[.slice (some ⟨wb,wo,none⟩) wn wk, .slice oa on ok, .slice ba bn bk, .slice ca cn ck] 154 (0,0))]++(q0++(Bc++(Cc++(bcs.set (e.refJob.toNat) d0).flatten))))::H::F):=Sat.perm (show Sat W _ ([(p, .cells #[.slice (some ⟨wb,wo,none⟩) wn wk, .slice oa on ok, .slice ba bn bk, .slice ca cn ck] 154 (0,0))]::q0::Bc::Cc::(bcs.set (e.refJob.toNat) d0).flatten::H::F) from z1) (by simp);exact .inr ⟨_,_,(by unfold takeX;rw [if_neg (by rintro (h|h|h);omega;exact h a0;omega),getD_some c0];dsimp only;rw [if_neg om]),rfl,⟨_,_,_,_,_,_,_,_,_,_,_,_,_,_,_,_,rfl,x1,hOb,hOc,t1,(by simp [hcl]),hOo,hDo⟩,a2⟩)
 refine gOC b0 9 [6,6] rfl<|cE e.from_ e.worker (fun b2=>jCR 7 rfl<|retT [.bool false]<|(by have c2:=(b0.dropAt 6 rfl);have d2:Sat W _ (([(p, .cells #[.slice (some ⟨wb,wo,none⟩) wn wk, .slice oa on ok, .slice ba bn bk, .slice ca cn ck] 154 (0,0))]++Wc++Bc++Cc++bcs.flatten)::H::F):=Sat.perm (show Sat W _ ([(p, .cells #[.slice (some ⟨wb,wo,none⟩) wn wk, .slice oa on ok, .slice ba bn bk, .slice ca cn ck] 154 (0,0))]::Wc::Bc::Cc::bcs.flatten::H::F) from c2) (by simp);exact .inl ⟨by unfold takeX;rw [if_pos (.inr (.inr ⟨om,om⟩))],rfl,_,d2⟩)) fun b2=>jCC 3 rfl ?_
 obtain ⟨k0,e0,q3,r3,_,_⟩:=runX_some a0
 obtain ⟨s3,o0⟩:∃y,ps[e.refJob.toNat]?=some y:=⟨_,List.getElem?_eq_getElem (by have h9:=(List.getElem?_eq_some_iff.1 e0).1;omega)⟩
 obtain ⟨t3,u3,e2,r0,f2⟩:=Obs.get hBs o0
 obtain rfl:=Option.some.inj (e2.symm.trans e0)
 obtain ⟨g2,rfl,h2⟩:=rbd_some f2
 obtain ⟨i2,v3,w3,j2,k2,l2,x3⟩:=OwnT.elem hOb e.refJob
 obtain rfl:(some g2)=i2:=Option.some.inj (o0.symm.trans j2)
 refine drawF b0 [12] (fb 3 0 2 1<|fb 6 6 4 1<|fq 8 0 (k2.up 2 rfl)<|fb 11 6 5 1<|fn) [0,1,2,4,5,9,10,3,6,7,8,11,12,13,14,15,16,17] fun _ m2=>wV 7<|wL 0<|wL 1<|wI l2<|wL 2<|wL 3<|wO rfl ?_
 have n2:=(m2.pick 4 rfl)
 refine cZ (r_start h2 (hBW _ (List.mem_of_getElem? e0)) e.refTask (Sat.flat1 (Sat.openN (A:=[]) (e.refJob.toNat) r0 n2))) ?_
 rintro _ _ ⟨f0,rfl,q2,r2⟩
 have l0:=Sat.shutN (d:=f0) (A:=[]) (e.refJob.toNat) r0 (Sat.unflat1 r2);have s2:=rbd_put hBs o0 q2
 exact nZ l0 [1,6]<|wV 1<|wV 1<|wV 1<|wV 2<|wN<|jXC 8 rfl<|CN ((startB k0 e.refTask).2.2) 0 (fun t2=>jCR 7 rfl<|retT [.bool false]<|(by have u2:=((l0.pick 1 rfl).dropAt 6 rfl);have v2:Sat W _ (([(p, .cells #[.slice (some ⟨wb,wo,none⟩) wn wk, .slice oa on ok, .slice ba bn bk, .slice ca cn ck] 154 (0,0))]++(bcs.set (e.refJob.toNat) f0).flatten++Wc++Bc++Cc)::H::F):=Sat.perm (show Sat W _ ([(p, .cells #[.slice (some ⟨wb,wo,none⟩) wn wk, .slice oa on ok, .slice ba bn bk, .slice ca cn ck] 154 (0,0))]::(bcs.set (e.refJob.toNat) f0).flatten::Wc::Bc::Cc::H::F) from u2) (by simp);exact .inl ⟨by unfold takeX;rw [if_neg (by rintro (h|h|h);omega;exact h a0;omega),getD_some e0];dsimp only;rw [if_pos om],rfl,_,v2⟩)) fun t2=>gCO l0 10 [206] rfl<|sStF l0 hOw rfl 2 (e.worker).toNat 0 v (⟨1,0,(startB k0 e.refTask).2.1,e.refJob,e.refTask⟩:Rk) m0 (.agg #[I 1,I 0,I ((startB k0 e.refTask).2.1),I e.refJob,I e.refTask]) [I 1,I 0,I ((startB k0 e.refTask).2.1),I e.refJob,I e.refTask] sizeOf208 fun _ s0 w2 x2=>jOR 8 rfl<|retT [.bool true]<|(by have y2:=((x2.picks [4,4,4,4]).dropAt 6 rfl);have z2:Sat W _ (([(p, .cells #[.slice (some ⟨wb,wo,none⟩) wn wk, .slice oa on ok, .slice ba bn bk, .slice ca cn ck] 154 (0,0))]++(s0++(Bc++(Cc++(bcs.set (e.refJob.toNat) f0).flatten))))::H::F):=Sat.perm (show Sat W _ ([(p, .cells #[.slice (some ⟨wb,wo,none⟩) wn wk, .slice oa on ok, .slice ba bn bk, .slice ca cn ck] 154 (0,0))]::s0::Bc::Cc::(bcs.set (e.refJob.toNat) f0).flatten::H::F) from y2) (by simp);exact .inr ⟨_,_,(by unfold takeX;rw [if_neg (by rintro (h|h|h);omega;exact h a0;omega),getD_some e0];dsimp only;rw [if_neg om]),rfl,⟨_,_,_,_,_,_,_,_,_,_,_,_,_,_,_,_,rfl,w2,hOb,hOc,s2,(by simp [hcl]),hOo,hDo⟩,z2⟩)
theorem rx_crash {p wb wo:Nat} {H:Chunk} {oa ba ca:Option Addr} {wn wk on ok bn bk cn ck:Nat} {ws:List Rk} {bs:List (Option BS)} {cx:List Bool} {ps:List (Option Nat)} {Wc Bc Cc:Chunk} {bcs F:List Chunk} {K:Int} (hOw:OwnT encRk 208 5 (some ⟨wb,wo,none⟩) wn wk ws Wc) (hOb:OwnT encPO 96 1 ba bn bk ps Bc) (hOc:OwnT encKB 4 1 ca cn ck cx Cc) (hBs:Obs RBd ps bs bcs) (hcl:cx.length=bs.length) (hBW:∀B,some B∈bs->BWf B K) {off:List TL} (hOo:RdT encTL 1 [H] oa on ok off) (hDo:∀z∈off,TL.Ok [H] z) (e:Evt) (v:Rk) (hv:ws[e.worker.toNat]?=some v) (h0:0<=e.worker) (hKb:K<=1000000) (hbl9:bs.length<=1000000) (hS:Sat W w ([(p, .cells #[.slice (some ⟨wb,wo,none⟩) wn wk, .slice oa on ok, .slice ba bn bk, .slice ca cn ck] 154 (0,0))]::Wc::Bc::Cc::bcs.flatten::H::F)):
  Calls prog 165 #[Pt p 0, .agg (encEvt e).toArray] w fun en w'=>(crashX ws bs cx e.worker.toNat v e=none/\en= .returned (.bool false)/\∃M':Chunk,Sat W w' (M'::H::F))\/(∃(r':RS) (M':Chunk),crashX ws bs cx e.worker.toNat v e=some r'/\en= .returned (.bool true)/\RsM p wb wo H off r' M'/\Sat W w' (M'::H::F)):=by
 have I0:=hOw.ll;have D0:=hOb.ll;have A0:=hOc.ll;have E0:=hBs.1
 have J0:=(List.getElem?_eq_some_iff.1 hv).1;have G0:=hOo.ll
 refine callsK 55 func165 rfl<|jCO 2 rfl<|sBx hS (encEvt e) fun _ _ q0=>jOC 4 rfl ?_
 obtain ⟨r0,z1,a2,d0,a0,s0,t0⟩:=OwnT.elem hOw e.worker
 obtain ⟨rfl,rfl⟩:=some_addr t0
 obtain rfl:v=r0:=Option.some.inj (hv.symm.trans d0)
 refine drawF q0 [] (fb 3 1 0 1<|fb 5 0 1 1<|fn) [0,1,2,4,3,5,6,7] fun _ j0=>wV 4<|wL 0<|wL 1<|wI s0<|wV 1<|wN<|jXC 3 rfl<|bD ((v.phase:Int)=4) (fun k0=>drawF j0 [] (fq 3 0 (a0.up 2 rfl)<|fn) [0,1,2,3,4,5,6,8,9,10,7,11,12,13] fun _ u0=>wV 3<|wL 0<|wV 2<|wFix 18 _ true (beq_iff_eq.2 k0)<|wV 8<|wN<|jXR 9 rfl<|retT [.bool false]<|(by have v0:=(u0.dropAt 0 rfl);have w0:Sat W _ (([(p, .cells #[.slice (some ⟨wb,wo,none⟩) wn wk, .slice oa on ok, .slice ba bn bk, .slice ca cn ck] 154 (0,0))]++Wc++Bc++Cc++bcs.flatten)::H::F):=Sat.perm (show Sat W _ ([(p, .cells #[.slice (some ⟨wb,wo,none⟩) wn wk, .slice oa on ok, .slice ba bn bk, .slice ca cn ck] 154 (0,0))]::Wc::Bc::Cc::bcs.flatten::H::F) from v0) (by simp);exact .inl ⟨by unfold crashX;rw [if_pos (by first|exact .inl om|exact .inr om)],rfl,_,w0⟩)) fun k0=>drawF j0 [] (fq 3 0 (a0.up 2 rfl)<|fb 7 0 4 2<|fq 11 3 (a0.up 2 rfl)<|fq 11 4 (a0.up 2 rfl)<|fn) [0,1,2,3,4,5,6,8,9,10,7,11,12,13] fun _ e0=>wV 3<|wL 0<|wV 2<|wFix 18 _ false (beq_eq_false_iff_ne.2 k0)<|wV 4<|wG 1 2<|wG 3 2<|wY (.bool (!(((e.refJob:Int)==v.heldJob)&&((e.refTask:Int)==v.heldTask)))) rfl (fun w _=>Y_eqS rfl kr kr (eqvn61 _ e.refJob e.refTask v.heldJob v.heldTask))<|wV 1<|wN<|jXC 1 rfl ?_
 refine bC ((e.refJob:Int)=v.heldJob/\(e.refTask:Int)=v.heldTask) (fun l0=>cT _ (congrArg Bool.not (show (((e.refJob:Int)==v.heldJob)&&((e.refTask:Int)==v.heldTask))=false from by simpa using l0))<|jCR 7 rfl<|retT [.bool false]<|(by have x0:=(e0.dropAt 0 rfl);have y0:Sat W _ (([(p, .cells #[.slice (some ⟨wb,wo,none⟩) wn wk, .slice oa on ok, .slice ba bn bk, .slice ca cn ck] 154 (0,0))]++Wc++Bc++Cc++bcs.flatten)::H::F):=Sat.perm (show Sat W _ ([(p, .cells #[.slice (some ⟨wb,wo,none⟩) wn wk, .slice oa on ok, .slice ba bn bk, .slice ca cn ck] 154 (0,0))]::Wc::Bc::Cc::bcs.flatten::H::F) from x0) (by simp);exact .inl ⟨by unfold crashX;rw [if_pos (by first|exact .inl om|exact .inr om)],rfl,_,y0⟩)) fun l0=>cF _ (congrArg Bool.not (show (((e.refJob:Int)==v.heldJob)&&((e.refTask:Int)==v.heldTask))=true from by simpa using l0))<|gCO e0 8 [0] rfl ?_
 have z0:=(e0.picks [6,6,6,6,6,6])
 refine cZ (rx_busy hOw hOb hOc hBs hcl hBW e.worker v hv om z0) ?_
 rintro _ _ ⟨rfl,m0⟩
 refine jOC 2 rfl<|CB (busyX bs cx v) (fun b0=>jCO 7 rfl<|sStF m0 hOw rfl 1 (e.worker).toNat 0 v (⟨4,0,0,0,0⟩:Rk) d0 (.agg #[I 4,I 0,I 0,I 0,I 0]) [I 4,I 0,I 0,I 0,I 0] sizeOf208 fun _ n0 a1 b1=>jOR 8 rfl<|retT [.bool true]<|(by have c1:=(b1.dropAt 6 rfl);have d1:Sat W _ (([(p, .cells #[.slice (some ⟨wb,wo,none⟩) wn wk, .slice oa on ok, .slice ba bn bk, .slice ca cn ck] 154 (0,0))]++(n0++(Bc++(Cc++bcs.flatten))))::H::F):=Sat.perm (show Sat W _ ([(p, .cells #[.slice (some ⟨wb,wo,none⟩) wn wk, .slice oa on ok, .slice ba bn bk, .slice ca cn ck] 154 (0,0))]::n0::Bc::Cc::bcs.flatten::H::F) from c1) (by simp);exact .inr ⟨_,_,(by unfold crashX;rw [if_neg (by rintro (h|h);omega;exact h ⟨om,om⟩),if_neg b0]),rfl,⟨_,_,_,_,_,_,_,_,_,_,_,_,_,_,_,_,rfl,a1,hOb,hOc,hBs,(by simp [hcl]),hOo,hDo⟩,d1⟩)) fun b0=>?_
 obtain ⟨d2,c0,e2,f2,_,_⟩:=runX_some (busyX_run b0)
 obtain ⟨g2,f0⟩:∃y,ps[v.heldJob.toNat]?=some y:=⟨_,List.getElem?_eq_getElem (by have h9:=(List.getElem?_eq_some_iff.1 c0).1;omega)⟩
 obtain ⟨h2,i2,e1,o0,f1⟩:=Obs.get hBs f0
 obtain rfl:=Option.some.inj (e1.symm.trans c0)
 obtain ⟨g1,rfl,h1⟩:=rbd_some f1
 obtain ⟨i1,j2,k2,j1,k1,l1,l2⟩:=OwnT.elem hOb v.heldJob
 obtain rfl:(some g1)=i1:=Option.some.inj (f0.symm.trans j1)
 refine drawF m0 [20] (fb 3 0 2 1<|fq 8 3 (a0.up 1 rfl)<|fq 10 0 (k1.up 2 rfl)<|fq 15 4 (a0.up 1 rfl)<|fq 19 2 (a0.up 1 rfl)<|fn) [0,1,2,4,5,6,7,11,12,13,14,16,17,18,3,8,9,10,15,19,20] fun _ m1=>wV 14<|wL 0<|wL 1<|wI l1<|wL 2<|wL 3<|wL 4<|wO rfl ?_
 have n1:=(m1.pick 4 rfl)
 refine cZ (r_return h1 (hBW _ (List.mem_of_getElem? c0)) v.heldTask v.attempt om (Sat.flat1 (Sat.openN (A:=[]) (v.heldJob.toNat) o0 n1))) ?_
 rintro _ _ ⟨g0,rfl,q1,r1⟩
 have i0:=Sat.shutN (d:=g0) (A:=[]) (v.heldJob.toNat) o0 (Sat.unflat1 r1);have s1:=rbd_put hBs f0 q1
 exact nilO ⟨⟨cI i0 1, .inr ((a0.up 2 rfl).cell i0 (k:=3) rfl),dI,dI,dI,trivial⟩,(wN<|jXO 6 rfl<|sStF i0 hOw rfl 2 (e.worker).toNat 0 v (⟨4,0,0,0,0⟩:Rk) d0 (.agg #[I 4,I 0,I 0,I 0,I 0]) [I 4,I 0,I 0,I 0,I 0] sizeOf208 fun _ p0 t1 u1=>jOR 8 rfl<|retT [.bool true]<|(by have v1:=((u1.picks [4,4,4,4]).dropAt 6 rfl);have w1:Sat W _ (([(p, .cells #[.slice (some ⟨wb,wo,none⟩) wn wk, .slice oa on ok, .slice ba bn bk, .slice ca cn ck] 154 (0,0))]++(p0++(Bc++(Cc++(bcs.set (v.heldJob.toNat) g0).flatten))))::H::F):=Sat.perm (show Sat W _ ([(p, .cells #[.slice (some ⟨wb,wo,none⟩) wn wk, .slice oa on ok, .slice ba bn bk, .slice ca cn ck] 154 (0,0))]::p0::Bc::Cc::(bcs.set (v.heldJob.toNat) g0).flatten::H::F) from v1) (by simp);exact .inr ⟨_,_,(by unfold crashX;rw [if_neg (by rintro (h|h);omega;exact h ⟨om,om⟩),if_pos b0,getD_some c0]),rfl,⟨_,_,_,_,_,_,_,_,_,_,_,_,_,_,_,_,rfl,t1,hOb,hOc,s1,(by simp [hcl]),hOo,hDo⟩,w1⟩))⟩
theorem rx_micro {p wb wo:Nat} {H:Chunk} {oa ba ca:Option Addr} {wn wk on ok bn bk cn ck:Nat} {ws:List Rk} {bs:List (Option BS)} {cx:List Bool} {ps:List (Option Nat)} {Wc Bc Cc:Chunk} {bcs F:List Chunk} {K:Int} (hOw:OwnT encRk 208 5 (some ⟨wb,wo,none⟩) wn wk ws Wc) (hOb:OwnT encPO 96 1 ba bn bk ps Bc) (hOc:OwnT encKB 4 1 ca cn ck cx Cc) (hBs:Obs RBd ps bs bcs) (hcl:cx.length=bs.length) (hBW:∀B,some B∈bs->BWf B K) {off:List TL} (hOo:RdT encTL 1 [H] oa on ok off) (hDo:∀z∈off,TL.Ok [H] z) (e:Evt) (v:Rk) (hv:ws[e.worker.toNat]?=some v) (h0:0<=e.worker) (hKb:K<=1000000) (hbl9:bs.length<=1000000) (hrow:0<=v.row/\v.row<=1000000) (hWI:busyX bs cx v=true->∃(T:TL) (t:Task),off[v.heldJob.toNat]?=some T/\T.l.l[v.heldTask.toNat]?=some t/\0<=v.heldJob/\0<=v.heldTask) (hS:Sat W w ([(p, .cells #[.slice (some ⟨wb,wo,none⟩) wn wk, .slice oa on ok, .slice ba bn bk, .slice ca cn ck] 154 (0,0))]::Wc::Bc::Cc::bcs.flatten::H::F)):
  Calls prog 164 #[Pt p 0, .agg (encEvt e).toArray] w fun en w'=>(microX off ws bs cx e.worker.toNat v e=none/\en= .returned (.bool false)/\∃M':Chunk,Sat W w' (M'::H::F))\/(∃(r':RS) (M':Chunk),microX off ws bs cx e.worker.toNat v e=some r'/\en= .returned (.bool true)/\RsM p wb wo H off r' M'/\Sat W w' (M'::H::F)):=by
 have Q0:=hOw.ll;have I0:=hOb.ll;have C0:=hOc.ll;have J0:=hBs.1
 have R0:=(List.getElem?_eq_some_iff.1 hv).1;have M0:=hOo.ll
 refine callsK 121 func164 rfl<|jCO 2 rfl<|sBx hS (encEvt e) fun _ _ z0=>jOC 4 rfl ?_
 obtain ⟨a1,s3,t3,d0,c0,b1,c1⟩:=OwnT.elem hOw e.worker
 obtain ⟨rfl,rfl⟩:=some_addr c1
 obtain rfl:v=a1:=Option.some.inj (hv.symm.trans d0)
 refine drawF z0 [] (fb 3 1 0 1<|fb 5 0 1 1<|fn) [0,1,2,4,3,5,6,7] fun _ n0=>wV 4<|wL 0<|wL 1<|wI b1<|wV 1<|wN<|gXO n0 7 [0] rfl ?_
 have d1:=(n0.picks [6,6,6,6,6,6])
 refine cZ (rx_busy hOw hOb hOc hBs hcl hBW e.worker v hv om d1) ?_
 rintro _ _ ⟨rfl,a0⟩
 refine jOC 3 rfl<|CBn (busyX bs cx v) (fun b0=>jCR 7 rfl<|retT [.bool false]<|(by have e1:=(a0.dropAt 6 rfl);have f1:Sat W _ (([(p, .cells #[.slice (some ⟨wb,wo,none⟩) wn wk, .slice oa on ok, .slice ba bn bk, .slice ca cn ck] 154 (0,0))]++Wc++Bc++Cc++bcs.flatten)::H::F):=Sat.perm (show Sat W _ ([(p, .cells #[.slice (some ⟨wb,wo,none⟩) wn wk, .slice oa on ok, .slice ba bn bk, .slice ca cn ck] 154 (0,0))]::Wc::Bc::Cc::bcs.flatten::H::F) from e1) (by simp);exact .inl ⟨by unfold microX;rw [if_pos b0],rfl,_,f1⟩)) fun b0=>gCO a0 10 [6] rfl<|sE 22 e.kind 6 (fun g1=>pu3<|gY<|sMp a0 (c0.up 1 rfl) 0 (I v.phase)<|jOC 5 rfl<|cE v.phase 1 (fun h1=>jCO 4 rfl<|sStF a0 hOw rfl 1 (e.worker).toNat 0 v (⟨2,v.row,v.attempt,v.heldJob,v.heldTask⟩:Rk) d0 (I 2) [I 2] sizeOf3 fun _ o0 i1 j1=>jOR 9 rfl<|retT [.bool true]<|(by have k1:=(j1.dropAt 6 rfl);have l1:Sat W _ (([(p, .cells #[.slice (some ⟨wb,wo,none⟩) wn wk, .slice oa on ok, .slice ba bn bk, .slice ca cn ck] 154 (0,0))]++(o0++(Bc++(Cc++bcs.flatten))))::H::F):=Sat.perm (show Sat W _ ([(p, .cells #[.slice (some ⟨wb,wo,none⟩) wn wk, .slice oa on ok, .slice ba bn bk, .slice ca cn ck] 154 (0,0))]::o0::Bc::Cc::bcs.flatten::H::F) from k1) (by simp);exact .inr ⟨_,_,(by unfold microX;rw [if_neg (fun h=>h b0),if_pos om]),rfl,⟨_,_,_,_,_,_,_,_,_,_,_,_,_,_,_,_,rfl,i1,hOb,hOc,hBs,(by simp [hcl]),hOo,hDo⟩,l1⟩)) fun h1=>gCO a0 6 [6] rfl<|(by have m1:¬((e.kind:Int)=7):=(by omega);refine sFix 36 _ false (beq_eq_false_iff_ne.2 m1)<|jOC 11 rfl ?_;have n1:¬((e.kind:Int)=8):=(by omega);exact drawF a0 [] (fb 1 6 0 1<|fn) [0,1,2,3,4,5,6,7,8,9,10,11,13,14,15,12,16,17,18,19] fun _ o1=>wV 1<|wL 0<|wV 2<|wFix 81 _ false (beq_eq_false_iff_ne.2 n1)<|wV 16<|wN<|jXR 10 rfl<|retT [.bool false]<|(by have q1:=(o1.dropAt 6 rfl);have r1:Sat W _ (([(p, .cells #[.slice (some ⟨wb,wo,none⟩) wn wk, .slice oa on ok, .slice ba bn bk, .slice ca cn ck] 154 (0,0))]++Wc++Bc++Cc++bcs.flatten)::H::F):=Sat.perm (show Sat W _ ([(p, .cells #[.slice (some ⟨wb,wo,none⟩) wn wk, .slice oa on ok, .slice ba bn bk, .slice ca cn ck] 154 (0,0))]::Wc::Bc::Cc::bcs.flatten::H::F) from q1) (by simp);exact .inl ⟨by unfold microX;rw [if_neg (fun h=>h b0),if_neg om,if_neg om,if_neg om],rfl,_,r1⟩))) fun g1=>?_
 refine gOO a0 16 [6] rfl<|sE 36 e.kind 7 (fun s1=>?_) (fun s1=>?_)
 ·refine pu3<|gY<|sMp a0 (c0.up 1 rfl) 0 (I v.phase)<|jOC 5 rfl<|CE v.phase 2 (fun t1=>jCC 1 rfl<|(by have u1:¬((e.kind:Int)=8):=(by omega);exact drawF a0 [] (fb 1 6 0 1<|fn) [0,1,2,3,4,5,6,7,8,9,10,11,13,14,15,12,16,17,18,19] fun _ v1=>wV 1<|wL 0<|wV 2<|wFix 81 _ false (beq_eq_false_iff_ne.2 u1)<|wV 16<|wN<|jXR 10 rfl<|retT [.bool false]<|(by have w1:=(v1.dropAt 6 rfl);have x1:Sat W _ (([(p, .cells #[.slice (some ⟨wb,wo,none⟩) wn wk, .slice oa on ok, .slice ba bn bk, .slice ca cn ck] 154 (0,0))]++Wc++Bc++Cc++bcs.flatten)::H::F):=Sat.perm (show Sat W _ ([(p, .cells #[.slice (some ⟨wb,wo,none⟩) wn wk, .slice oa on ok, .slice ba bn bk, .slice ca cn ck] 154 (0,0))]::Wc::Bc::Cc::bcs.flatten::H::F) from w1) (by simp);exact .inl ⟨by unfold microX;rw [if_neg (fun h=>h b0),if_neg om,if_neg om,if_neg om],rfl,_,x1⟩))) fun t1=>jCO 5 rfl<|sMp a0 (c0.up 1 rfl) 1 (I v.row)<|sAdd v.row 1<|pu2<|sStF a0 hOw rfl 1 (e.worker).toNat 1 v (⟨v.phase,(v.row+1),v.attempt,v.heldJob,v.heldTask⟩:Rk) d0 (I (v.row+1)) [I (v.row+1)] sizeOf3 fun _ f0 g0 y1=>jOC 3 rfl ?_
  obtain ⟨T,t,hT,ht,L0,N0⟩:=hWI b0;have E0:=(List.getElem?_eq_some_iff.1 hT).1;have O0:=(List.getElem?_eq_some_iff.1 ht).1;have A0:=(hDo T (List.mem_of_getElem? hT)).l;have G0:=A0.ll;have B0:=rowsX_at hT ht
  have p0:=set_at (y:=(⟨v.phase,(v.row+1),v.attempt,v.heldJob,v.heldTask⟩:Rk)) d0
  have i0:=OwnT.ptr g0 rfl p0
  obtain ⟨z1,x3,y3,q0,a2,b2⟩:=RdT.elem hOo v.heldJob
  obtain rfl:T=z1:=Option.some.inj (hT.symm.trans q0)
  obtain ⟨c2,z3,a4,d2,e2,f2⟩:=RdT.elem (hDo T (List.mem_of_getElem? q0)).l v.heldTask
  obtain rfl:t=c2:=Option.some.inj (ht.symm.trans d2)
  exact drawF y1 [] (fq 3 1 (i0.up 1 rfl)<|fb 7 0 1 1<|fq 12 3 (i0.up 1 rfl)<|fq 14 0 (a2.up 5 rfl)<|fq 19 4 (i0.up 1 rfl)<|fq 22 7 (e2.up 5 rfl)<|fn) [0,1,2,4,5,6,8,9,10,11,15,16,17,18,3,7,12,13,14,19,20,21,22,23] fun _ r0=>wV 14<|wL 0<|wL 1<|wL 2<|wI b2<|wL 3<|wL 4<|wI f2<|wV 1<|wL 5<|wV 1<|wN<|jXC 1 rfl<|CE (v.row+1) t.rows (fun g2=>jCR 9 rfl<|retT [.bool true]<|(by have h2:OwnT encRk 208 5 (some ⟨wb,wo,none⟩) wn wk (ws.set e.worker.toNat ⟨2,v.row+1,v.attempt,v.heldJob,v.heldTask⟩) f0:=(by rw [show (2:Int)=v.phase by omega];exact g0);have i2:=(r0.dropAt 6 rfl);have j2:Sat W _ (([(p, .cells #[.slice (some ⟨wb,wo,none⟩) wn wk, .slice oa on ok, .slice ba bn bk, .slice ca cn ck] 154 (0,0))]++(f0++(Bc++(Cc++bcs.flatten))))::H::F):=Sat.perm (show Sat W _ ([(p, .cells #[.slice (some ⟨wb,wo,none⟩) wn wk, .slice oa on ok, .slice ba bn bk, .slice ca cn ck] 154 (0,0))]::f0::Bc::Cc::bcs.flatten::H::F) from i2) (by simp);exact .inr ⟨_,_,(by unfold microX;rw [if_neg (fun h=>h b0),if_neg om,if_pos om,B0,if_neg om]),rfl,⟨_,_,_,_,_,_,_,_,_,_,_,_,_,_,_,_,rfl,h2,hOb,hOc,hBs,(by simp [hcl]),hOo,hDo⟩,j2⟩)) fun g2=>jCO 4 rfl<|sStF r0 g0 rfl 1 (e.worker).toNat 0 (⟨v.phase,(v.row+1),v.attempt,v.heldJob,v.heldTask⟩:Rk) (⟨3,(v.row+1),v.attempt,v.heldJob,v.heldTask⟩:Rk) p0 (I 3) [I 3] sizeOf3 fun _ s0 t0 k2=>(by rw [List.set_set] at t0;exact jOR 9 rfl<|retT [.bool true]<|(by have l2:=(k2.dropAt 6 rfl);have m2:Sat W _ (([(p, .cells #[.slice (some ⟨wb,wo,none⟩) wn wk, .slice oa on ok, .slice ba bn bk, .slice ca cn ck] 154 (0,0))]++(s0++(Bc++(Cc++bcs.flatten))))::H::F):=Sat.perm (show Sat W _ ([(p, .cells #[.slice (some ⟨wb,wo,none⟩) wn wk, .slice oa on ok, .slice ba bn bk, .slice ca cn ck] 154 (0,0))]::s0::Bc::Cc::bcs.flatten::H::F) from l2) (by simp);exact .inr ⟨_,_,(by unfold microX;rw [if_neg (fun h=>h b0),if_neg om,if_pos om,B0,if_pos om]),rfl,⟨_,_,_,_,_,_,_,_,_,_,_,_,_,_,_,_,rfl,t0,hOb,hOc,hBs,(by simp [hcl]),hOo,hDo⟩,m2⟩))
 refine jOC 11 rfl<|bC ((e.kind:Int)=8) (fun j0=>drawF a0 [] (fb 1 6 0 1<|fn) [0,1,2,3,4,5,6,7,8,9,10,11,13,14,15,12,16,17,18,19] fun _ n2=>wV 1<|wL 0<|wV 2<|wFix 81 _ false (beq_eq_false_iff_ne.2 j0)<|wV 16<|wN<|jXR 10 rfl<|retT [.bool false]<|(by have o2:=(n2.dropAt 6 rfl);have q2:Sat W _ (([(p, .cells #[.slice (some ⟨wb,wo,none⟩) wn wk, .slice oa on ok, .slice ba bn bk, .slice ca cn ck] 154 (0,0))]++Wc++Bc++Cc++bcs.flatten)::H::F):=Sat.perm (show Sat W _ ([(p, .cells #[.slice (some ⟨wb,wo,none⟩) wn wk, .slice oa on ok, .slice ba bn bk, .slice ca cn ck] 154 (0,0))]::Wc::Bc::Cc::bcs.flatten::H::F) from o2) (by simp);exact .inl ⟨by unfold microX;rw [if_neg (fun h=>h b0),if_neg om,if_neg om,if_neg om],rfl,_,q2⟩)) fun j0=>bC ((v.phase:Int)=3) (fun u0=>drawF a0 [] (fb 1 6 0 1<|fq 7 0 (c0.up 1 rfl)<|fn) [0,1,2,3,4,5,6,7,8,9,10,11,13,14,15,12,16,17,18,19] fun _ r2=>wV 1<|wL 0<|wV 2<|wFix 81 _ true (beq_iff_eq.2 j0)<|wV 3<|wL 1<|wV 3<|wFix 88 _ false (beq_eq_false_iff_ne.2 u0)<|wV 9<|wN<|jXR 10 rfl<|retT [.bool false]<|(by have s2:=(r2.dropAt 6 rfl);have t2:Sat W _ (([(p, .cells #[.slice (some ⟨wb,wo,none⟩) wn wk, .slice oa on ok, .slice ba bn bk, .slice ca cn ck] 154 (0,0))]++Wc++Bc++Cc++bcs.flatten)::H::F):=Sat.perm (show Sat W _ ([(p, .cells #[.slice (some ⟨wb,wo,none⟩) wn wk, .slice oa on ok, .slice ba bn bk, .slice ca cn ck] 154 (0,0))]::Wc::Bc::Cc::bcs.flatten::H::F) from s2) (by simp);exact .inl ⟨by unfold microX;rw [if_neg (fun h=>h b0),if_neg om,if_neg om,if_neg om],rfl,_,t2⟩)) fun u0=>?_
 refine drawF a0 [] (fb 1 6 0 1<|fq 7 0 (c0.up 1 rfl)<|fb 12 6 4 2<|fq 16 3 (c0.up 1 rfl)<|fq 16 4 (c0.up 1 rfl)<|fn) [0,1,2,3,4,5,6,7,8,9,10,11,13,14,15,12,16,17,18,19] fun _ v0=>wV 1<|wL 0<|wV 2<|wFix 81 _ true (beq_iff_eq.2 j0)<|wV 3<|wL 1<|wV 3<|wFix 88 _ true (beq_iff_eq.2 u0)<|wV 4<|wG 2 2<|wG 4 2<|wY (.bool (((e.refJob:Int)==v.heldJob)&&((e.refTask:Int)==v.heldTask))) rfl (fun w _=>Y_eqS rfl kr kr (eqve61 _ e.refJob e.refTask v.heldJob v.heldTask))<|wV 2<|wN<|jXC 1 rfl<|bC ((e.refJob:Int)=v.heldJob/\(e.refTask:Int)=v.heldTask) (fun w0=>cF _ (show (((e.refJob:Int)==v.heldJob)&&((e.refTask:Int)==v.heldTask))=false from by simpa using w0)<|jCR 8 rfl<|retT [.bool false]<|(by have u2:=(v0.dropAt 6 rfl);have v2:Sat W _ (([(p, .cells #[.slice (some ⟨wb,wo,none⟩) wn wk, .slice oa on ok, .slice ba bn bk, .slice ca cn ck] 154 (0,0))]++Wc++Bc++Cc++bcs.flatten)::H::F):=Sat.perm (show Sat W _ ([(p, .cells #[.slice (some ⟨wb,wo,none⟩) wn wk, .slice oa on ok, .slice ba bn bk, .slice ca cn ck] 154 (0,0))]::Wc::Bc::Cc::bcs.flatten::H::F) from u2) (by simp);exact .inl ⟨by unfold microX;rw [if_neg (fun h=>h b0),if_neg om,if_neg om,if_neg om],rfl,_,v2⟩)) fun w0=>cT _ (show (((e.refJob:Int)==v.heldJob)&&((e.refTask:Int)==v.heldTask))=true from by simpa using w0)<|jCC 1 rfl ?_
 obtain ⟨c4,e0,d4,e4,_,_⟩:=runX_some (busyX_run b0)
 obtain ⟨f4,k0⟩:∃y,ps[v.heldJob.toNat]?=some y:=⟨_,List.getElem?_eq_getElem (by have h9:=(List.getElem?_eq_some_iff.1 e0).1;omega)⟩
 obtain ⟨g4,h4,w2,x0,x2⟩:=Obs.get hBs k0
 obtain rfl:=Option.some.inj (w2.symm.trans e0)
 obtain ⟨y2,rfl,z2⟩:=rbd_some x2
 obtain ⟨a3,i4,j4,b3,c3,d3,k4⟩:=OwnT.elem hOb v.heldJob
 obtain rfl:(some y2)=a3:=Option.some.inj (k0.symm.trans b3)
 refine drawF v0 [20] (fb 3 0 2 1<|fq 8 3 (c0.up 1 rfl)<|fq 10 0 (c3.up 2 rfl)<|fq 15 4 (c0.up 1 rfl)<|fq 19 2 (c0.up 1 rfl)<|fn) [0,1,2,4,5,6,7,11,12,13,14,16,17,18,3,8,9,10,15,19,20] fun _ e3=>wV 14<|wL 0<|wL 1<|wI d3<|wL 2<|wL 3<|wL 4<|wO rfl ?_
 have f3:=(e3.pick 4 rfl)
 refine cZ (r_commit z2 (hBW _ (List.mem_of_getElem? e0)) v.heldTask v.attempt (Sat.flat1 (Sat.openN (A:=[]) (v.heldJob.toNat) x0 f3))) ?_
 rintro _ _ ⟨_,_,_,_,l0,rfl,_,h3,i3⟩
 have j3:=(Sat.unflat2 i3).dropAt 0 rfl
 have m0:=Sat.shutN (d:=l0) (A:=[]) (v.heldJob.toNat) x0 j3;have k3:=rbd_put hBs k0 h3
 exact nilO ⟨⟨cI m0 1, .inr ((c0.up 2 rfl).cell m0 (k:=3) rfl),dI,dI,dI,trivial⟩,(wN<|jXO 5 rfl<|sStF m0 hOw rfl 2 (e.worker).toNat 0 v (⟨0,0,0,0,0⟩:Rk) d0 (.agg #[I 0,I 0,I 0,I 0,I 0]) [I 0,I 0,I 0,I 0,I 0] sizeOf208 fun _ y0 l3 m3=>jOR 9 rfl<|retT [.bool true]<|(by have n3:=((m3.picks [4,4,4,4]).dropAt 6 rfl);have o3:Sat W _ (([(p, .cells #[.slice (some ⟨wb,wo,none⟩) wn wk, .slice oa on ok, .slice ba bn bk, .slice ca cn ck] 154 (0,0))]++(y0++(Bc++(Cc++(bcs.set (v.heldJob.toNat) l0).flatten))))::H::F):=Sat.perm (show Sat W _ ([(p, .cells #[.slice (some ⟨wb,wo,none⟩) wn wk, .slice oa on ok, .slice ba bn bk, .slice ca cn ck] 154 (0,0))]::y0::Bc::Cc::(bcs.set (v.heldJob.toNat) l0).flatten::H::F) from n3) (by simp);exact .inr ⟨_,_,(by unfold microX;rw [if_neg (fun h=>h b0),if_neg om,if_neg om,if_pos om,getD_some e0]),rfl,⟨_,_,_,_,_,_,_,_,_,_,_,_,_,_,_,_,rfl,l3,hOb,hOc,k3,(by simp [hcl]),hOo,hDo⟩,o3⟩))⟩
theorem rx_submit {p wb wo:Nat} {H:Chunk} {oa ba ca:Option Addr} {wn wk on ok bn bk cn ck:Nat} {ws:List Rk} {bs:List (Option BS)} {cx:List Bool} {ps:List (Option Nat)} {Wc Bc Cc:Chunk} {bcs F:List Chunk} {K:Int} (hOw:OwnT encRk 208 5 (some ⟨wb,wo,none⟩) wn wk ws Wc) (hOb:OwnT encPO 96 1 ba bn bk ps Bc) (hOc:OwnT encKB 4 1 ca cn ck cx Cc) (hBs:Obs RBd ps bs bcs) (hcl:cx.length=bs.length) (hBW:∀B,some B∈bs->BWf B K) {off:List TL} (hOo:RdT encTL 1 [H] oa on ok off) (hDo:∀z∈off,TL.Ok [H] z) (e:Evt) (v:Rk) (hv:ws[e.worker.toNat]?=some v) (h0:0<=e.worker) (hKb:K<=1000000) (hbl9:bs.length<=1000000) (hS:Sat W w ([(p, .cells #[.slice (some ⟨wb,wo,none⟩) wn wk, .slice oa on ok, .slice ba bn bk, .slice ca cn ck] 154 (0,0))]::Wc::Bc::Cc::bcs.flatten::H::F)):
  Calls prog 161 #[Pt p 0, .agg (encEvt e).toArray] w fun en w'=>(submitX off ws bs cx e=none/\en= .returned (.bool false)/\∃M':Chunk,Sat W w' (M'::H::F))\/(∃(r':RS) (M':Chunk),submitX off ws bs cx e=some r'/\en= .returned (.bool true)/\RsM p wb wo H off r' M'/\Sat W w' (M'::H::F)):=by
 have L0:=hOw.ll;have G0:=hOb.ll;have B0:=hOc.ll;have H0:=hBs.1
 have M0:=(List.getElem?_eq_some_iff.1 hv).1;have J0:=hOo.ll
 refine callsK 61 func161 rfl<|jCO 2 rfl<|sBx hS (encEvt e) fun _ _ r2=>jOC 5 rfl<|drawF r2 [] (fb 1 0 3 1<|fb 5 1 2 1<|fn) [0,2,3,4,1,5,6,7] fun _ e0=>wV 4<|wL 0<|wL 1<|wV 2<|wN<|jXC 1 rfl<|CN e.job (bn:Int) (fun s2=>jCR 7 rfl<|retT [.bool false]<|(by have t2:=(e0.dropAt 0 rfl);have u2:Sat W _ (([(p, .cells #[.slice (some ⟨wb,wo,none⟩) wn wk, .slice oa on ok, .slice ba bn bk, .slice ca cn ck] 154 (0,0))]++Wc++Bc++Cc++bcs.flatten)::H::F):=Sat.perm (show Sat W _ ([(p, .cells #[.slice (some ⟨wb,wo,none⟩) wn wk, .slice oa on ok, .slice ba bn bk, .slice ca cn ck] 154 (0,0))]::Wc::Bc::Cc::bcs.flatten::H::F) from t2) (by simp);exact .inl ⟨by unfold submitX;first|rw [if_pos om]|rw [if_neg om,if_neg om,List.getElem?_eq_none om],rfl,_,u2⟩)) fun s2=>?_
 refine gCC e0 15 [0] rfl<|cE e.err 0 (fun v2=>?_) (fun v2=>?_)
 rotate_left
 ·refine jCC 3 rfl<|drawG e0 [7,8,13,14,17,20] (fb 5 1 2 1<|fb 12 1 3 1<|fn) (pS [0,1,2,3,4,6,9,10,11,5,12]<| .fk 7 13 (.fk 8 13 (.ef 13<| .ef 14<|pS [15,16]<| .ef 17<|pS [18,19]<| .ef 20<| .fin) (.ef 8<| .ef 14<|pS [15,16]<| .ef 17<|pS [18,19]<| .ef 20<| .fin)) (.ef 7<| .ef 8<| .ef 14<|pS [15,16]<| .ef 17<|pS [18,19]<| .ef 20<| .fin)) fun _ k1=>qV 9<|qL 0<|qL 1<|qF ?_ ?_
  rotate_left
  ·exact qO rfl<|sBK k1 #[.bool false] 4 fun _ _ l1=>nZ l1 [2,2]<|qO rfl<|sBK l1 #[.pointer none] 96 fun _ _ m1=>nZ m1 [3,3]<|qO rfl<|sApp (nb:=8) m1 hOb 5 (RdT.blk (enc:=encPO) (sz:=1) (xs:=[none]) fR 1 0 rfl rfl rfl om) underlying151 (i:=Tryz.t96) kr fR fun f0 g0 n1 _ w2 o1=>nZ o1 [3]<|qO rfl<|sApp (nb:=1) o1 hOc 6 (RdT.blk (enc:=encKB) (sz:=1) (xs:=[false]) fR 1 1 rfl rfl rfl om) underlying152 (i:=Tryz.t4) kr fR fun i0 j0 q1 _ x2 y2=>nA<|qV 2<|qO rfl<|tWk y2 3 rfl 2 (.slice f0 (bn+1) g0) fun _ z2=>nA<|qV 2<|qO rfl<|tWk z2 3 rfl 3 (.slice i0 (cn+1) j0) fun _ a3=>nA<|qN<|jXR 7 rfl<|retT [.bool true]<|(by have b3:=(a3.drops [0,0,0]);have c3:Sat W _ (([(p, .cells #[.slice (some ⟨wb,wo,none⟩) wn wk, .slice oa on ok, .slice f0 (bn+1) g0, .slice i0 (cn+1) j0] 154 (0,0))]++(Wc++(n1++(q1++(bcs++[[]]).flatten))))::H::F):=Sat.perm (show Sat W _ ([(p, .cells #[.slice (some ⟨wb,wo,none⟩) wn wk, .slice oa on ok, .slice f0 (bn+1) g0, .slice i0 (cn+1) j0] 154 (0,0))]::Wc::n1::q1::bcs.flatten::H::F) from b3) (by simp);exact .inr ⟨_,_,(by unfold submitX;rw [if_neg om,if_pos om]),rfl,⟨_,_,_,_,_,_,_,_,_,_,_,_,_,_,_,_,rfl,hOw,w2,x2,(Obs.snoc hBs (p:=none) (s:=none) (c:=[]) (.inl ⟨rfl,rfl,rfl⟩)),(by simp [hcl]),hOo,hDo⟩,c3⟩)
  refine qO rfl<|sBK k1 #[.pointer none] 96 fun _ _ k0=>nZ k0 [2,2]<|qF ?_ ?_
  ·exact qO rfl<|sApp (nb:=8) k0 hOb 4 (RdT.blk (enc:=encPO) (sz:=1) (xs:=[none]) fR 1 0 rfl rfl rfl om) underlying151 (i:=Tryz.t96) kr fR fun l0 m0 r1 _ d3 s1=>nZ s1 [2]<|qO rfl<|sBK s1 #[.bool false] 4 fun _ _ t1=>nZ t1 [3]<|qO rfl<|sApp (nb:=1) t1 hOc 6 (RdT.blk (enc:=encKB) (sz:=1) (xs:=[false]) fR 1 0 rfl rfl rfl om) underlying152 (i:=Tryz.t4) kr fR fun n0 o0 u1 _ e3 f3=>nA<|qV 2<|qO rfl<|tWk f3 3 rfl 2 (.slice l0 (bn+1) m0) fun _ g3=>nA<|qV 2<|qO rfl<|tWk g3 3 rfl 3 (.slice n0 (cn+1) o0) fun _ h3=>nA<|qN<|jXR 7 rfl<|retT [.bool true]<|(by have i3:=(h3.drops [0,0,0]);have j3:Sat W _ (([(p, .cells #[.slice (some ⟨wb,wo,none⟩) wn wk, .slice oa on ok, .slice l0 (bn+1) m0, .slice n0 (cn+1) o0] 154 (0,0))]++(Wc++(r1++(u1++(bcs++[[]]).flatten))))::H::F):=Sat.perm (show Sat W _ ([(p, .cells #[.slice (some ⟨wb,wo,none⟩) wn wk, .slice oa on ok, .slice l0 (bn+1) m0, .slice n0 (cn+1) o0] 154 (0,0))]::Wc::r1::u1::bcs.flatten::H::F) from i3) (by simp);exact .inr ⟨_,_,(by unfold submitX;rw [if_neg om,if_pos om]),rfl,⟨_,_,_,_,_,_,_,_,_,_,_,_,_,_,_,_,rfl,hOw,d3,e3,(Obs.snoc hBs (p:=none) (s:=none) (c:=[]) (.inl ⟨rfl,rfl,rfl⟩)),(by simp [hcl]),hOo,hDo⟩,j3⟩)
  exact qO rfl<|sBK k0 #[.bool false] 4 fun _ _ v1=>nZ v1 [3,3]<|qO rfl<|sApp (nb:=8) v1 hOb 5 (RdT.blk (enc:=encPO) (sz:=1) (xs:=[none]) fR 1 1 rfl rfl rfl om) underlying151 (i:=Tryz.t96) kr fR fun p0 q0 w1 _ k3 x1=>nZ x1 [3]<|qO rfl<|sApp (nb:=1) x1 hOc 6 (RdT.blk (enc:=encKB) (sz:=1) (xs:=[false]) fR 1 0 rfl rfl rfl om) underlying152 (i:=Tryz.t4) kr fR fun r0 s0 y1 _ l3 m3=>nA<|qV 2<|qO rfl<|tWk m3 3 rfl 2 (.slice p0 (bn+1) q0) fun _ n3=>nA<|qV 2<|qO rfl<|tWk n3 3 rfl 3 (.slice r0 (cn+1) s0) fun _ o3=>nA<|qN<|jXR 7 rfl<|retT [.bool true]<|(by have q3:=(o3.drops [0,0,0]);have r3:Sat W _ (([(p, .cells #[.slice (some ⟨wb,wo,none⟩) wn wk, .slice oa on ok, .slice p0 (bn+1) q0, .slice r0 (cn+1) s0] 154 (0,0))]++(Wc++(w1++(y1++(bcs++[[]]).flatten))))::H::F):=Sat.perm (show Sat W _ ([(p, .cells #[.slice (some ⟨wb,wo,none⟩) wn wk, .slice oa on ok, .slice p0 (bn+1) q0, .slice r0 (cn+1) s0] 154 (0,0))]::Wc::w1::y1::bcs.flatten::H::F) from q3) (by simp);exact .inr ⟨_,_,(by unfold submitX;rw [if_neg om,if_pos om]),rfl,⟨_,_,_,_,_,_,_,_,_,_,_,_,_,_,_,_,rfl,hOw,k3,l3,(Obs.snoc hBs (p:=none) (s:=none) (c:=[]) (.inl ⟨rfl,rfl,rfl⟩)),(by simp [hcl]),hOo,hDo⟩,r3⟩)
 refine jCC 2 rfl<|drawF e0 [] (fb 1 0 3 1<|fb 5 1 1 1<|fn) [0,2,3,4,1,5,6,7] fun _ z1=>wV 4<|wL 0<|wL 1<|wV 2<|wN<|jXC 1 rfl<|cD (e.job>=(on:Int)) (fun s3=>jCR 8 rfl<|retT [.bool false]<|(by have t3:=(z1.dropAt 0 rfl);have u3:Sat W _ (([(p, .cells #[.slice (some ⟨wb,wo,none⟩) wn wk, .slice oa on ok, .slice ba bn bk, .slice ca cn ck] 154 (0,0))]++Wc++Bc++Cc++bcs.flatten)::H::F):=Sat.perm (show Sat W _ ([(p, .cells #[.slice (some ⟨wb,wo,none⟩) wn wk, .slice oa on ok, .slice ba bn bk, .slice ca cn ck] 154 (0,0))]::Wc::Bc::Cc::bcs.flatten::H::F) from t3) (by simp);exact .inl ⟨by unfold submitX;first|rw [if_pos om]|rw [if_neg om,if_neg om,List.getElem?_eq_none om],rfl,_,u3⟩)) fun s3=>?_
 refine jCC 3 rfl ?_
 obtain ⟨a0,d0⟩:∃y,off[e.job.toNat]?=some y:=⟨_,List.getElem?_eq_getElem om⟩;have A0:=(hDo a0 (List.mem_of_getElem? d0)).l;have E0:=A0.ll
 obtain ⟨v3,w5,x5,t0,w3,x3⟩:=RdT.elem hOo e.job
 obtain rfl:a0=v3:=Option.some.inj (d0.symm.trans t0)
 refine drawF z1 [8] (fb 3 1 1 1<|fb 5 0 3 1<|fq 7 0 (w3.up 6 rfl)<|fn) [0,1,2,4,3,5,6,7,8,9,10,11,12,13] fun _ y3=>wV 4<|wL 0<|wL 1<|wI x3<|wL 2<|wO rfl<|cZ (r25_new a0.l.a a0.l.n a0.l.k a0.l.l (RdT.flat ((hDo a0 (List.mem_of_getElem? t0)).l.up 6 (by rfl))) (fun z hz=>((hDo a0 (List.mem_of_getElem? t0)).lD z hz).of_mem (mF 6)) y3.flat) ?_
 rintro _ _ (⟨u0,rfl,v0⟩|⟨u0,c0,b0,rfl,w0,v0⟩)
 · exact (by have a2:=v0.unflat;exact nZ a2 [1,0]<|wV 1<|wV 1<|wV 1<|wV 2<|wN<|jXC 8 rfl<|(by have z3:¬(((validC a0.l.l):Int)=0):=u0;exact cT _ (bne_iff_ne.2 z3)<|jCR 8 rfl<|retT [.bool false]<|(by have a4:=(a2.dropAt 0 rfl);have b4:Sat W _ (([(p, .cells #[.slice (some ⟨wb,wo,none⟩) wn wk, .slice oa on ok, .slice ba bn bk, .slice ca cn ck] 154 (0,0))]++Wc++Bc++Cc++bcs.flatten)::H::F):=Sat.perm (show Sat W _ ([(p, .cells #[.slice (some ⟨wb,wo,none⟩) wn wk, .slice oa on ok, .slice ba bn bk, .slice ca cn ck] 154 (0,0))]::Wc::Bc::Cc::bcs.flatten::H::F) from a4) (by simp);exact .inl ⟨by unfold submitX;rw [if_neg om,if_neg om,d0];dsimp only;rw [if_pos u0],rfl,_,b4⟩)))
 have b2:=v0.unflat1
 refine nZ b2 [2,1]<|wV 1<|wV 1<|wV 1<|wV 2<|wN<|jXC 17 rfl<|drawG b2 [7,8,13,14,17,20] (fb 5 2 2 1<|fb 12 2 3 1<|fn) (pS [0,1,2,3,4,6,9,10,11,5,12]<| .fk 7 13 (.fk 8 13 (.ef 13<| .ef 14<|pS [15,16]<| .ef 17<|pS [18,19]<| .ef 20<| .fin) (.ef 8<| .ef 14<|pS [15,16]<| .ef 17<|pS [18,19]<| .ef 20<| .fin)) (.ef 7<| .ef 8<| .ef 14<|pS [15,16]<| .ef 17<|pS [18,19]<| .ef 20<| .fin)) fun _ c2=>qV 9<|qL 0<|qL 1<|qF ?_ ?_
 rotate_left
 ·exact qO rfl<|sBK c2 #[.bool false] 4 fun _ _ d2=>nZ d2 [3,3]<|qO rfl<|sBK d2 #[Pt c0 0] 96 fun _ _ e2=>nZ e2 [4,4]<|qO rfl<|sApp (nb:=8) e2 hOb 6 (RdT.blk (enc:=encPO) (sz:=1) (xs:=[(some c0)]) fR 1 0 rfl rfl rfl om) underlying151 (i:=Tryz.t96) kr fR fun x0 y0 f2 _ c4 g2=>nZ g2 [4]<|qO rfl<|sApp (nb:=1) g2 hOc 7 (RdT.blk (enc:=encKB) (sz:=1) (xs:=[false]) fR 1 1 rfl rfl rfl om) underlying152 (i:=Tryz.t4) kr fR fun z0 a1 h2 _ d4 e4=>nA<|qV 2<|qO rfl<|tWk e4 4 rfl 2 (.slice x0 (bn+1) y0) fun _ f4=>nA<|qV 2<|qO rfl<|tWk f4 4 rfl 3 (.slice z0 (cn+1) a1) fun _ g4=>nA<|qN<|jXR 7 rfl<|retT [.bool true]<|(by have h4:=((g4.picks [8,8,8,8,8]).drops [5,5,6]);have i4:Sat W _ (([(p, .cells #[.slice (some ⟨wb,wo,none⟩) wn wk, .slice oa on ok, .slice x0 (bn+1) y0, .slice z0 (cn+1) a1] 154 (0,0))]++(Wc++(f2++(h2++(bcs++[b0]).flatten))))::H::F):=Sat.perm (show Sat W _ ([(p, .cells #[.slice (some ⟨wb,wo,none⟩) wn wk, .slice oa on ok, .slice x0 (bn+1) y0, .slice z0 (cn+1) a1] 154 (0,0))]::Wc::f2::h2::bcs.flatten::b0::H::F) from h4) (by simp);exact .inr ⟨_,_,(by unfold submitX;rw [if_neg om,if_neg om,d0];dsimp only;rw [if_neg om]),rfl,⟨_,_,_,_,_,_,_,_,_,_,_,_,_,_,_,_,rfl,hOw,c4,d4,(Obs.snoc hBs (p:=some c0) (s:=some (newB a0.l.l)) (c:=b0) (.inr ⟨_,_,rfl,rfl,w0⟩)),(by simp [hcl]),hOo,hDo⟩,i4⟩)
 refine qO rfl<|sBK c2 #[Pt c0 0] 96 fun _ _ b1=>nZ b1 [3,3]<|qF ?_ ?_
 ·exact qO rfl<|sApp (nb:=8) b1 hOb 5 (RdT.blk (enc:=encPO) (sz:=1) (xs:=[(some c0)]) fR 1 0 rfl rfl rfl om) underlying151 (i:=Tryz.t96) kr fR fun c1 d1 i2 _ j4 j2=>nZ j2 [3]<|qO rfl<|sBK j2 #[.bool false] 4 fun _ _ k2=>nZ k2 [4]<|qO rfl<|sApp (nb:=1) k2 hOc 7 (RdT.blk (enc:=encKB) (sz:=1) (xs:=[false]) fR 1 0 rfl rfl rfl om) underlying152 (i:=Tryz.t4) kr fR fun e1 f1 l2 _ k4 l4=>nA<|qV 2<|qO rfl<|tWk l4 4 rfl 2 (.slice c1 (bn+1) d1) fun _ m4=>nA<|qV 2<|qO rfl<|tWk m4 4 rfl 3 (.slice e1 (cn+1) f1) fun _ n4=>nA<|qN<|jXR 7 rfl<|retT [.bool true]<|(by have o4:=((n4.picks [8,8,8,8,8]).drops [5,5,6]);have p4:Sat W _ (([(p, .cells #[.slice (some ⟨wb,wo,none⟩) wn wk, .slice oa on ok, .slice c1 (bn+1) d1, .slice e1 (cn+1) f1] 154 (0,0))]++(Wc++(i2++(l2++(bcs++[b0]).flatten))))::H::F):=Sat.perm (show Sat W _ ([(p, .cells #[.slice (some ⟨wb,wo,none⟩) wn wk, .slice oa on ok, .slice c1 (bn+1) d1, .slice e1 (cn+1) f1] 154 (0,0))]::Wc::i2::l2::bcs.flatten::b0::H::F) from o4) (by simp);exact .inr ⟨_,_,(by unfold submitX;rw [if_neg om,if_neg om,d0];dsimp only;rw [if_neg om]),rfl,⟨_,_,_,_,_,_,_,_,_,_,_,_,_,_,_,_,rfl,hOw,j4,k4,(Obs.snoc hBs (p:=some c0) (s:=some (newB a0.l.l)) (c:=b0) (.inr ⟨_,_,rfl,rfl,w0⟩)),(by simp [hcl]),hOo,hDo⟩,p4⟩)
 exact qO rfl<|sBK b1 #[.bool false] 4 fun _ _ m2=>nZ m2 [4,4]<|qO rfl<|sApp (nb:=8) m2 hOb 6 (RdT.blk (enc:=encPO) (sz:=1) (xs:=[(some c0)]) fR 1 1 rfl rfl rfl om) underlying151 (i:=Tryz.t96) kr fR fun g1 h1 n2 _ q4 o2=>nZ o2 [4]<|qO rfl<|sApp (nb:=1) o2 hOc 7 (RdT.blk (enc:=encKB) (sz:=1) (xs:=[false]) fR 1 0 rfl rfl rfl om) underlying152 (i:=Tryz.t4) kr fR fun i1 j1 q2 _ r4 s4=>nA<|qV 2<|qO rfl<|tWk s4 4 rfl 2 (.slice g1 (bn+1) h1) fun _ u4=>nA<|qV 2<|qO rfl<|tWk u4 4 rfl 3 (.slice i1 (cn+1) j1) fun _ v4=>nA<|qN<|jXR 7 rfl<|retT [.bool true]<|(by have w4:=((v4.picks [8,8,8,8,8]).drops [5,5,6]);have x4:Sat W _ (([(p, .cells #[.slice (some ⟨wb,wo,none⟩) wn wk, .slice oa on ok, .slice g1 (bn+1) h1, .slice i1 (cn+1) j1] 154 (0,0))]++(Wc++(n2++(q2++(bcs++[b0]).flatten))))::H::F):=Sat.perm (show Sat W _ ([(p, .cells #[.slice (some ⟨wb,wo,none⟩) wn wk, .slice oa on ok, .slice g1 (bn+1) h1, .slice i1 (cn+1) j1] 154 (0,0))]::Wc::n2::q2::bcs.flatten::b0::H::F) from w4) (by simp);exact .inr ⟨_,_,(by unfold submitX;rw [if_neg om,if_neg om,d0];dsimp only;rw [if_neg om]),rfl,⟨_,_,_,_,_,_,_,_,_,_,_,_,_,_,_,_,rfl,hOw,q4,r4,(Obs.snoc hBs (p:=some c0) (s:=some (newB a0.l.l)) (c:=b0) (.inr ⟨_,_,rfl,rfl,w0⟩)),(by simp [hcl]),hOo,hDo⟩,x4⟩)
theorem rx_help {p wb wo:Nat} {H:Chunk} {oa ba ca:Option Addr} {wn wk on ok bn bk cn ck:Nat} {ws:List Rk} {bs:List (Option BS)} {cx:List Bool} {ps:List (Option Nat)} {Wc Bc Cc:Chunk} {bcs F:List Chunk} {K:Int} (hOw:OwnT encRk 208 5 (some ⟨wb,wo,none⟩) wn wk ws Wc) (hOb:OwnT encPO 96 1 ba bn bk ps Bc) (hOc:OwnT encKB 4 1 ca cn ck cx Cc) (hBs:Obs RBd ps bs bcs) (hcl:cx.length=bs.length) (hBW:∀B,some B∈bs->BWf B K) (e:Evt) (v u:Rk) (hv:ws[e.worker.toNat]?=some v) (h0:0<=e.worker) (hu:ws[e.from_.toNat]?=some u) (hu0:0<=e.from_) {al:Option Addr} {nl kl:Nat} {l:List Evt} (hl:RdT encEvt 7 [H] al nl kl l) (hS:Sat W w ([(p, .cells #[.slice (some ⟨wb,wo,none⟩) wn wk, .slice oa on ok, .slice ba bn bk, .slice ca cn ck] 154 (0,0))]::Wc::Bc::Cc::bcs.flatten::H::F)):
  Calls prog 166 #[Pt p 0, .agg (encEvt e).toArray, .slice al nl kl] w fun en w'=>en= .returned (.bool (helpX ws bs cx v e l))/\Sat W w' ([(p, .cells #[.slice (some ⟨wb,wo,none⟩) wn wk, .slice oa on ok, .slice ba bn bk, .slice ca cn ck] 154 (0,0))]::Wc::Bc::Cc::bcs.flatten::H::F):=by
 have H0:=hOw.ll;have A0:=hOb.ll;have w0:=hOc.ll;have B0:=hBs.1
 have I0:=(List.getElem?_eq_some_iff.1 hv).1;have F0:=(List.getElem?_eq_some_iff.1 hu).1;have E0:=hl.ll
 refine callsK 64 func166 rfl<|jCO 2 rfl<|sBx hS (encEvt e) fun _ _ n0=>jOC 5 rfl ?_
 obtain ⟨t0,t1,u1,u0,d0,o0,v0⟩:=OwnT.elem hOw e.worker
 obtain ⟨rfl,rfl⟩:=some_addr v0
 obtain rfl:v=t0:=Option.some.inj (hv.symm.trans u0)
 refine bC ((v.phase:Int)=0) (fun p0=>drawF n0 [21,26] (fb 3 1 0 1<|fb 5 0 1 1<|fq 8 0 (d0.up 2 rfl)<|fn) [0,1,2,4,3,5,6,7,8,9,10,11,13,12,14,15,16,17,18,19,20,21,22,23,24,25,26,27,28,29,30,31,32] fun _ f0=>wV 4<|wL 0<|wL 1<|wI o0<|wV 1<|wL 2<|wV 2<|wFix 18 _ true (bne_iff_ne.2 p0)<|wV 10<|wO rfl<|pu1<|nilO ⟨⟨cI f0 1,cI f0 0, .inr ((d0.up 2 rfl).cell f0 (k:=0) rfl),trivial⟩,(wV 4<|wO rfl<|pu1<|nilO ⟨⟨cI f0 1,cI f0 0, .inr ((d0.up 2 rfl).cell f0 (k:=0) rfl),trivial⟩,(wV 6<|wN<|jXR 9 rfl<|retT [.bool false]<|⟨rB (by unfold helpX;rw [decide_eq_false om];rfl),(f0.dropAt 0 rfl)⟩)⟩)⟩) fun p0=>bD ((e.from_:Int)=e.worker) (fun r0=>drawF n0 [21,26] (fb 3 1 0 1<|fb 5 0 1 1<|fq 8 0 (d0.up 2 rfl)<|fb 12 0 2 1<|fb 14 0 1 1<|fn) [0,1,2,4,3,5,6,7,8,9,10,11,13,12,14,15,16,17,18,19,20,21,22,23,24,25,26,27,28,29,30,31,32] fun _ c0=>wV 4<|wL 0<|wL 1<|wI o0<|wV 1<|wL 2<|wV 2<|wFix 18 _ false (bne_eq_false_iff_eq.2 p0)<|wV 2<|wL 3<|wL 4<|wV 3<|wFix 25 _ true (beq_iff_eq.2 r0)<|wV 3<|wO rfl<|pu1<|nilO ⟨⟨cI c0 1,cI c0 0, .inr ((d0.up 2 rfl).cell c0 (k:=0) rfl),cI c0 0,cI c0 0,trivial⟩,(wV 4<|wO rfl<|pu1<|nilO ⟨⟨cI c0 1,cI c0 0, .inr ((d0.up 2 rfl).cell c0 (k:=0) rfl),cI c0 0,cI c0 0,trivial⟩,(wV 6<|wN<|jXR 9 rfl<|retT [.bool false]<|⟨rB (by unfold helpX;rw [decide_eq_false om];rfl),(c0.dropAt 0 rfl)⟩)⟩)⟩) fun r0=>?_
 refine drawF n0 [21,26] (fb 3 1 0 1<|fb 5 0 1 1<|fq 8 0 (d0.up 2 rfl)<|fb 12 0 2 1<|fb 14 0 1 1<|fb 20 0 2 1<|fn) [0,1,2,4,3,5,6,7,8,9,10,11,13,12,14,15,16,17,18,19,20,21,22,23,24,25,26,27,28,29,30,31,32] fun _ y0=>wV 4<|wL 0<|wL 1<|wI o0<|wV 1<|wL 2<|wV 2<|wFix 18 _ false (bne_eq_false_iff_eq.2 p0)<|wV 2<|wL 3<|wL 4<|wV 3<|wFix 25 _ false (beq_eq_false_iff_ne.2 r0)<|wV 2<|wL 5<|wO rfl<|gY ?_
 have z0:=(y0.picks [6,6,6,6,6,6])
 refine cZ (rx_busy hOw hOb hOc hBs hcl hBW e.from_ u hu om z0) ?_
 rintro _ _ ⟨rfl,a0⟩
 refine nilO ⟨⟨cI a0 0,cI a0 6, .inr ((d0.up 1 rfl).cell a0 (k:=0) rfl),cI a0 6,cI a0 6,dI,trivial⟩,?_⟩
 refine wV 1<|wV 2<|bC ((busyX bs cx u)=true) (fun g0=>wFix 32 _ true (congrArg Bool.not (Bool.eq_false_iff.2 g0))<|wV 1<|wO rfl<|pu1<|nilO ⟨⟨cI a0 0,cI a0 6, .inr ((d0.up 1 rfl).cell a0 (k:=0) rfl),cI a0 6,cI a0 6,dI,trivial⟩,(wV 1<|wV 1<|wV 1<|wV 1<|wV 1<|wV 1<|wN<|jXR 9 rfl<|retT [.bool false]<|⟨rB (by unfold helpX;rw [getD_some hu,Bool.eq_false_iff.2 g0];simp),(a0.dropAt 6 rfl)⟩)⟩) fun g0=>wFix 32 _ false (congrArg Bool.not g0)<|wV 1<|wO rfl<|gY ?_
 have b1:=(a0.picks [5,5,5,5,5,5])
 refine cZ (rx_ready hOw hOb hOc hBs hcl hBW b1) ?_
 rintro _ _ ⟨rfl,b0⟩
 refine nilO ⟨⟨cI b0 0,cI b0 6, .inr ((d0.up 1 rfl).cell b0 (k:=0) rfl),cI b0 6,cI b0 6,dI,trivial⟩,?_⟩
 refine wV 1<|wV 1<|bD ((readyX bs cx)=true) (fun i0=>wFix 36 _ true i0<|wV 1<|wV 1<|wV 1<|wV 1<|wN<|jXR 9 rfl<|retT [.bool false]<|⟨rB (by unfold helpX;rw [i0];simp),(b0.dropAt 6 rfl)⟩) fun i0=>wFix 36 _ false (Bool.eq_false_iff.2 i0)<|wV 1<|wV 1<|wV 1<|wV 1<|wN<|jXC 1 rfl<|cE (nl:Int) 0 (fun d1=>jCR 7 rfl<|retT [.bool false]<|⟨rB (by unfold helpX;rw [show l=[] from List.eq_nil_of_length_eq_zero om];simp),(b0.dropAt 6 rfl)⟩) fun d1=>jCO 5 rfl<|sII hl 0 fun e0 _ _ j0 f1=>pu1<|sMp b0 (f1.up 5 rfl) 0 (I e0.kind)<|jOC 4 rfl ?_
 obtain ⟨g1,z1,a2,h1,k0,l0⟩:=RdT.elem hl 0
 obtain rfl:e0=g1:=Option.some.inj (j0.symm.trans h1)
 refine bC ((e0.worker:Int)=e.from_) (fun m0=>drawF b0 [] (fq 3 1 (k0.up 5 rfl)<|fb 5 6 2 1<|fn) [0,1,2,4,3,5,6,7,8,9,10,11,12,13,14,15,16,17,18,19] fun _ i1=>wV 1<|wI l0<|wV 2<|wL 0<|wL 1<|wV 2<|wFix 52 _ false (beq_eq_false_iff_ne.2 m0)<|wV 12<|wN<|jXR 2 rfl<|retT [.bool false]<|⟨rB (by unfold helpX;rw [decide_eq_true om,getD_some hu,g0,Bool.eq_false_iff.2 i0,List.head?_eq_getElem?,show l[0]?=some e0 from j0];simp only [Bool.not_false,Bool.true_and];exact (decide_eq_false om).symm),(i1.dropAt 6 rfl)⟩) fun m0=>?_
 refine bD ((e0.kind:Int)=6) (fun q0=>drawF b0 [] (fq 3 1 (k0.up 5 rfl)<|fb 5 6 2 1<|fn) [0,1,2,4,3,5,6,7,8,9,10,11,12,13,14,15,16,17,18,19] fun _ k1=>wV 1<|wI l0<|wV 2<|wL 0<|wL 1<|wV 2<|wFix 52 _ true (beq_iff_eq.2 m0)<|wV 3<|wFix 55 _ true (beq_iff_eq.2 q0)<|wV 9<|wN<|jXR 2 rfl<|retT [.bool true]<|⟨rB (by unfold helpX;rw [decide_eq_true om,getD_some hu,g0,Bool.eq_false_iff.2 i0,List.head?_eq_getElem?,show l[0]?=some e0 from j0];simp only [Bool.not_false,Bool.true_and];exact (decide_eq_true om).symm),(k1.dropAt 6 rfl)⟩) fun q0=>?_
 refine bD ((e0.kind:Int)=7) (fun s0=>drawF b0 [] (fq 3 1 (k0.up 5 rfl)<|fb 5 6 2 1<|fn) [0,1,2,4,3,5,6,7,8,9,10,11,12,13,14,15,16,17,18,19] fun _ m1=>wV 1<|wI l0<|wV 2<|wL 0<|wL 1<|wV 2<|wFix 52 _ true (beq_iff_eq.2 m0)<|wV 3<|wFix 55 _ false (beq_eq_false_iff_ne.2 q0)<|wV 4<|wFix 59 _ true (beq_iff_eq.2 s0)<|wV 5<|wN<|jXR 2 rfl<|retT [.bool true]<|⟨rB (by unfold helpX;rw [decide_eq_true om,getD_some hu,g0,Bool.eq_false_iff.2 i0,List.head?_eq_getElem?,show l[0]?=some e0 from j0];simp only [Bool.not_false,Bool.true_and];exact (decide_eq_true om).symm),(m1.dropAt 6 rfl)⟩) fun s0=>?_
 exact drawF b0 [] (fq 3 1 (k0.up 5 rfl)<|fb 5 6 2 1<|fn) [0,1,2,4,3,5,6,7,8,9,10,11,12,13,14,15,16,17,18,19] fun _ o1=>wV 1<|wI l0<|wV 2<|wL 0<|wL 1<|wV 2<|wFix 52 _ true (beq_iff_eq.2 m0)<|wV 3<|wFix 55 _ false (beq_eq_false_iff_ne.2 q0)<|wV 4<|wFix 59 _ false (beq_eq_false_iff_ne.2 s0)<|wV 5<|wN<|jXR 2 rfl<|retT [.bool ((e0.kind:Int)==8)]<|⟨rB (by unfold helpX;rw [decide_eq_true om,getD_some hu,g0,Bool.eq_false_iff.2 i0,List.head?_eq_getElem?,show l[0]?=some e0 from j0];simp only [Bool.not_false,Bool.true_and];rw [Bool.eq_iff_iff];simp only [decide_eq_true_eq,beq_iff_eq];omega),(o1.dropAt 6 rfl)⟩
end Go.Proofs.YtkadmghedmodbaaGreat
