import Derived.Test.YtghcddbhllkbmaaGreatR4P4Tu
import Derived.Test.YtghcddbhllkbmaaGreatR4P4Ts
namespace Go.Proofs.YtghcddbhllkbmaaGreat
open Go Go.E Go.Proofs.Tryz
set_option linter.all false
set_option maxRecDepth 100000
set_option maxHeartbeats 2000000
variable {W w:World} {H:Chunk} {F:List Chunk}
theorem p15_valid (s:Shape) (hS:Sat W w (H::F)):
  Ro prog 122 #[.agg #[I s.w,I s.h,I s.max_]] (.bool (decide ((1:Int)<=s.w/\s.w<=(128:Int)/\(1:Int)<=s.h/\s.h<=(128:Int)/\s.w*s.h<=(4096:Int)/\(1:Int)<=s.max_/\s.max_<=(4294967296:Int)))) W w (H::F):=by
 exact callsK 42 func122 rfl<|jCO 2 rfl<|sBx hS [I s.w,I s.h,I s.max_] fun _ _ a0=>gOO a0 10 [0] rfl<|sD 8 (s.w<1) (fun b0=>jOR 34 rfl<|retT [.bool false]<|⟨rB (decide_eq_false om).symm,(a0.dropAt 0 rfl)⟩) fun b0=>gOO a0 5 [0] rfl<|sD 13 (s.w>128) (fun d0=>jOR 29 rfl<|retT [.bool false]<|⟨rB (decide_eq_false om).symm,(a0.dropAt 0 rfl)⟩) fun d0=>gOO a0 5 [0] rfl<|sD 18 (s.h<1) (fun f0=>jOR 24 rfl<|retT [.bool false]<|⟨rB (decide_eq_false om).symm,(a0.dropAt 0 rfl)⟩) fun f0=>gOO a0 5 [0] rfl<|sD 23 (s.h>128) (fun h0=>jOR 19 rfl<|retT [.bool false]<|⟨rB (decide_eq_false om).symm,(a0.dropAt 0 rfl)⟩) fun h0=>gOO a0 5 [0] rfl<|sD 28 (s.max_<1) (fun j0=>jOR 14 rfl<|retT [.bool false]<|⟨rB (decide_eq_false om).symm,(a0.dropAt 0 rfl)⟩) fun j0=>gOC a0 6 [0] rfl<|cD (s.max_>4294967296) (fun l0=>jCR 7 rfl<|retT [.bool false]<|⟨rB (decide_eq_false om).symm,(a0.dropAt 0 rfl)⟩) fun l0=>gCO a0 8 [0,0] rfl<|cS (p1_mul s.w s.h 4096 (od) a0.flat) fun _ n0=>jOR 14 rfl<|retT [.bool (mulOK s.w s.h 4096)]<|⟨rB (show mulOK s.w s.h 4096=_ from decide_eq_decide.2 om),(n0.dropAt 0 rfl)⟩
theorem p15_edged (x:Int) (hS:Sat W w (H::F)):
  Ro prog 123 #[I x] (.bool (decide (x=1\/x=2\/x=3))) W w (H::F):=by
 exact callsK 13 func123 rfl<|jCO 10 rfl<|sE 5 x 1 (fun a0=>jOR 11 rfl<|retT [.bool true]<|⟨rB bq,hS⟩) fun a0=>pu4<|sE 9 x 2 (fun b0=>jOR 7 rfl<|retT [.bool true]<|⟨rB bq,hS⟩) fun b0=>jOR 7 rfl<|retT [.bool ((x:Int)==3)]<|⟨rB bq,hS⟩
theorem p15_pair (q:Stage) (hq:Stage.Ok [H] q) (hS:Sat W w (H::F)):
  Ro prog 83 #[.agg (encStage q).toArray] (.bool (decide (q.kind=6/\¬q.b=-1))) W w (H::F):=by
 have c0:=hq.weights.ll
 have f0:=hq.row.ll
 have d0:=hq.col.ll
 have g0:=hq.x.ll
 have h0:=hq.y.ll
 have e0:=hq.ops.ll
 exact callsK 11 func83 rfl<|jCO 2 rfl<|sBx hS (encStage q) fun _ _ a0=>gOO a0 9 [0] rfl<|SE 6 q.kind 6 (fun b0=>jOR 8 rfl<|retT [.bool false]<|⟨rB bq,(a0.dropAt 0 rfl)⟩) fun b0=>gOR a0 8 [0] rfl<|retT [.bool ((q.b:Int)!=(-1))]<|⟨rB bq,(a0.dropAt 0 rfl)⟩
theorem p15_sources (q:Stage) (hq:Stage.Ok [H] q) (hS:Sat W w (H::F)):
  Calls prog 47 #[.agg (encStage q).toArray] w fun e w'=>∃(az:Option Addr) (nz kz:Nat) (G:Chunk),e= .returned (.slice az nz kz)/\OwnT Go.E.encI 3 1 az nz kz (srcs q.v) G/\Sat W w' (G::H::F):=by
 have l0:=hq.weights.ll
 have o0:=hq.row.ll
 have m0:=hq.col.ll
 have q0:=hq.x.ll
 have r0:=hq.y.ll
 have n0:=hq.ops.ll
 exact callsK 13 func47 rfl<|jCO 2 rfl<|sBx hS (encStage q) fun _ _ b0=>gOO b0 7 [1800] rfl<|cS (p15_pair q (hq.of_mem (mF 1)) b0.flat) fun _ a0=>jOC 2 rfl<|CD (q.kind=6/\¬q.b=-1) (fun e0=>gCO a0 6 [0] rfl<|sBK a0 #[I q.a] 3 fun c0 _ f0=>jOR 4 rfl<|retT [.slice (At c0 0) 1 1]<|(by have g0:=OwnT.blk (enc:=Go.E.encI) (sz:=1) (b:=c0) (c:=#[I q.a]) (E:=3) (xs:=[q.a]) fR 1 rfl rfl rfl om;have h0:=(f0.dropAt 1 rfl);have hl:[q.a]=srcs q.v:=(by unfold srcs;rw [if_neg (by unfold twoP;simp only [Stage.v];omega)];rfl);have p0:=g0;rw [hl] at p0;exact ⟨_,_,_,_,rfl,p0,h0⟩)) fun e0=>gCO a0 6 [0,0] rfl<|sBK a0 #[I q.a,I q.b] 3 fun d0 _ i0=>jOR 5 rfl<|retT [.slice (At d0 0) 2 2]<|(by have j0:=OwnT.blk (enc:=Go.E.encI) (sz:=1) (b:=d0) (c:=#[I q.a,I q.b]) (E:=3) (xs:=[q.a,q.b]) fR 2 rfl rfl rfl om;have k0:=(i0.dropAt 1 rfl);have hl:[q.a,q.b]=srcs q.v:=(by unfold srcs;rw [if_pos (by unfold twoP;simp only [Stage.v];omega)];rfl);have p0:=j0;rw [hl] at p0;exact ⟨_,_,_,_,rfl,p0,k0⟩)
theorem p15_is {b bz:Nat} {q:Stage} {k:Int} (hS:Sat W w ([(b, .cells (encStage q).toArray 53 (0,0))]::[(bz, .cells #[I k] 3 (0,0))]::F)):
  Calls prog 156 #[.slice (At bz 0) 1 1,Pt b 0] w fun e w'=>e= .returned (.bool (decide (q.kind=k)))/\Sat W w' ([(b, .cells (encStage q).toArray 53 (0,0))]::[(bz, .cells #[I k] 3 (0,0))]::F):=by
 exact callsA 17 func156 rfl<|sR<|pu1<|zQ<|pu3<|nT<|blockE<|loopN 3<|roundS<|sR<|pu1<|nT<|seqE<|cTt<|kT<|seqE<|blockE<|sR<|stepY (Pt bz 0) rfl rfl (Y_idx (a:=(At bz 0)) (i:=0) (len:=1) (cap:=1) rfl runUnderlying22 sizeOf3 kr kr ⟨_,rfl,add_off _ 0 _,by decide,by decide⟩)<|sM hS 1 0 (I k)<|pu1<|zS<|pu1<|sM hS 0 0 (I q.kind)<|pu2<|nT<|cE q.kind k (fun a0=>sR<|pu1<|zB<|tR<|tK<|retT [.bool true]<|⟨rB ((decide_eq_true om).symm),hS⟩) fun a0=>skipE<|bN<|tN<|rE<|pu2<|nT<|roundS<|sR<|pu1<|nT<|seqE<|cFf<|exitE<|xB<|tN<|sR<|pu1<|zE<|retT [.bool false]<|⟨rB ((decide_eq_false om).symm),hS⟩
theorem fdF {W w:World} {cs:List Chunk} {q:StageV} (h:¬fieldsP q) (hS:Sat W w cs):Ending.returned (.bool false)= .returned (.bool (decide (fieldsP q)))/\Sat W w cs:=⟨rB (decide_eq_false h).symm,hS⟩
theorem fdT {W w:World} {cs:List Chunk} {q:StageV} (h:fieldsP q) (hS:Sat W w cs):Ending.returned (.bool true)= .returned (.bool (decide (fieldsP q)))/\Sat W w cs:=⟨rB (decide_eq_true h).symm,hS⟩
theorem p15_fields (q:Stage) (hq:Stage.Ok [H] q) (hS:Sat W w (H::F)):
  Ro prog 121 #[.agg (encStage q).toArray] (.bool (decide (fieldsP q.v))) W w (H::F):=by
 have A0:=hq.weights.ll
 have F0:=hq.row.ll
 have D0:=hq.col.ll
 have G0:=hq.x.le;have B0:=hq.x.len
 have H0:=hq.y.le;have C0:=hq.y.len
 have E0:=hq.ops.ll
 have I0:(q.x.l.map Tap.v).length=q.x.n:=by simp [B0]
 have J0:(q.y.l.map Tap.v).length=q.y.n:=by simp [C0]
 refine callsK 146 func121 rfl<|jCO 2 rfl<|sBx hS (encStage q) fun d0 _ h0=>gOO h0 10 [0] rfl<|sD 12 (q.kind<1) (fun n1=>jOR 14 rfl<|retT [.bool false]<|(by have o1:=(h0.dropAt 0 rfl);exact fdF (by unfold fieldsP;simp only [Stage.v];omega) o1)) fun n1=>gOC h0 6 [0] rfl<|cD (q.kind>6) (fun q1=>jCR 7 rfl<|retT [.bool false]<|(by have r1:=(h0.dropAt 0 rfl);exact fdF (by unfold fieldsP;simp only [Stage.v];omega) r1)) fun q1=>jCC 2 rfl<|cutF h0 0 [1] (γ:=Unit) (fun _ R=>⟨[],R,0,((1<=q.kind/\q.kind<=6)/\(q.kind=6\/q.b=-1))⟩) ?_ ?_
 ·exact gCO h0 6 [0] rfl<|sN 20 q.kind 6 (fun s1=>jOI 8 rfl<|⟨(),alB,h0,om⟩) fun s1=>gOC h0 6 [0] rfl<|cN q.b (-1) (fun t1=>jCI 1 rfl<|⟨(),alB,h0,om⟩) fun t1=>jCR 7 rfl<|retT [.bool false]<|(by have u1:=(h0.dropAt 0 rfl);exact fdF (by unfold fieldsP;simp only [Stage.v];omega) u1)
 rintro _ ρ _ ⟨v0,hK⟩
 refine gCO v0 10 [0] rfl<|cS (p15_edged q.kind v0.flat) fun _ v1=>jOO 6 rfl<|sBK v1 #[I 1] 3 fun _ _ w1=>?_
 have x1:=(w1.picks [0,1])
 refine cXc #[Pt d0 0] call156 (p15_is x1) ?_
 rintro _ _ ⟨rfl,y1⟩
 refine jOO 6 rfl<|sBK y1 #[I 2] 3 fun _ _ z1=>?_
 have a2:=(z1.picks [0,1])
 refine cXc #[Pt d0 0] call156 (p15_is a2) ?_
 rintro _ _ ⟨rfl,b2⟩
 refine jOO 6 rfl<|sBK b2 #[I 3] 3 fun _ _ c2=>?_
 have d2:=(c2.picks [0,1])
 refine cXc #[Pt d0 0] call156 (p15_is d2) ?_
 rintro _ _ ⟨rfl,i0⟩
 refine jOC 3 rfl ?_
 rcases (by omega:q.kind=1\/q.kind=2\/q.kind=3\/q.kind=4\/q.kind=5\/q.kind=6) with o8|p8|q8|r8|s8|t8
 ·refine jCO 3 rfl<|sBK i0 #[I 6] 3 fun _ _ e2=>?_
  have f2:=(e2.picks [0,1])
  refine cXc #[Pt d0 0] call156 (p15_is f2) ?_
  rintro _ _ ⟨rfl,e0⟩
  refine jOO 7 rfl ?_
  have o0:q.kind=1\/q.kind=2\/q.kind=3:=om
  refine sFix 42 _ true (decide_eq_true o0)<|pu8 ?_
  have g2:q.kind=1:=om
  refine sFix 50 _ true (decide_eq_true g2)<|jOO 19 rfl ?_
  have w0:¬(q.kind=2):=by omega
  refine sFix 69 _ false (decide_eq_false w0)<|gOO e0 5 [0] rfl<|SE 74 (q.row.n:Int) 0 (fun h2=>jOR 75 rfl<|retT [.bool false]<|(by have i2:=(e0.drops [0,0,0,0,0]);exact fdF (by unfold fieldsP;simp only [Stage.v];omega) i2)) fun h2=>gOO e0 8 [0] rfl<|SE 82 (q.col.n:Int) 0 (fun j2=>jOR 67 rfl<|retT [.bool false]<|(by have k2:=(e0.drops [0,0,0,0,0]);exact fdF (by unfold fieldsP;simp only [Stage.v];omega) k2)) fun j2=>pu2<|sFix 84 _ true (decide_eq_true o0)<|pu8<|sFix 92 _ false (decide_eq_false w0)<|pu3 ?_
  have x0:¬(q.kind=3):=by omega
  refine sFix 95 _ false (decide_eq_false x0)<|gOO e0 6 [0] rfl<|SE 101 q.shift2 0 (fun l2=>jOR 48 rfl<|retT [.bool false]<|(by have m2:=(e0.drops [0,0,0,0,0]);exact fdF (by unfold fieldsP;simp only [Stage.v];omega) m2)) fun l2=>pu2<|sFix 103 _ false (decide_eq_false x0)<|gOO e0 5 [0] rfl<|SE 108 (q.x.n:Int) 0 (fun n2=>jOR 41 rfl<|retT [.bool false]<|(by have o2:=(e0.drops [0,0,0,0,0]);exact fdF (by unfold fieldsP;simp only [Stage.v];omega) o2)) fun n2=>gOO e0 8 [0] rfl<|SE 116 (q.y.n:Int) 0 (fun q2=>jOR 33 rfl<|retT [.bool false]<|(by have r2:=(e0.drops [0,0,0,0,0]);exact fdF (by unfold fieldsP;simp only [Stage.v];omega) r2)) fun q2=>pu1<|gY<|sBK e0 #[I 4] 3 fun _ _ s2=>gY ?_
  have t2:=(s2.picks [0,1])
  refine cXc #[Pt d0 0] call156 (p15_is t2) ?_
  rintro _ _ ⟨rfl,k0⟩
  refine pu1 ?_
  have u2:¬(q.kind=4):=by omega
  refine sFix 120 _ false (decide_eq_false u2)<|gOO k0 6 [0] rfl<|SE 126 q.bins 0 (fun v2=>jOR 23 rfl<|retT [.bool false]<|(by have w2:=(k0.drops [0,0,0,0,0,0]);exact fdF (by unfold fieldsP;simp only [Stage.v];omega) w2)) fun v2=>pu2 ?_
  have x2:¬(q.kind=6):=by omega
  exact sFix 128 _ false (decide_eq_false x2)<|gOO k0 7 [0] rfl<|SE 135 (q.ops.n:Int) 0 (fun y2=>jOR 14 rfl<|retT [.bool false]<|(by have z2:=(k0.drops [0,0,0,0,0,0]);exact fdF (by unfold fieldsP;simp only [Stage.v];omega) z2)) fun y2=>pu2<|sFix 137 _ true (decide_eq_true o0)<|jOR 12 rfl<|retT [.bool true]<|(by have a3:=(k0.drops [0,0,0,0,0,0]);exact fdT (by unfold fieldsP;simp only [Stage.v];omega) a3)
 ·refine jCO 3 rfl<|sBK i0 #[I 6] 3 fun _ _ b3=>?_
  have c3:=(b3.picks [0,1])
  refine cXc #[Pt d0 0] call156 (p15_is c3) ?_
  rintro _ _ ⟨rfl,f0⟩
  refine jOO 7 rfl ?_
  have p0:q.kind=1\/q.kind=2\/q.kind=3:=om
  refine sFix 42 _ true (decide_eq_true p0)<|pu8 ?_
  have d3:¬(q.kind=1):=by omega
  refine sFix 50 _ false (decide_eq_false d3)<|gOO f0 4 [0] rfl<|SE 54 q.kW 0 (fun e3=>jOR 95 rfl<|retT [.bool false]<|(by have f3:=(f0.drops [0,0,0,0,0]);exact fdF (by unfold fieldsP;simp only [Stage.v];omega) f3)) fun e3=>gOO f0 5 [0] rfl<|SE 59 q.kH 0 (fun g3=>jOR 90 rfl<|retT [.bool false]<|(by have h3:=(f0.drops [0,0,0,0,0]);exact fdF (by unfold fieldsP;simp only [Stage.v];omega) h3)) fun g3=>gOO f0 8 [0] rfl<|SE 67 (q.weights.n:Int) 0 (fun i3=>jOR 82 rfl<|retT [.bool false]<|(by have j3:=(f0.drops [0,0,0,0,0]);exact fdF (by unfold fieldsP;simp only [Stage.v];omega) j3)) fun i3=>pu2 ?_
  have y0:q.kind=2:=om
  refine sFix 69 _ true (decide_eq_true y0)<|pu15<|sFix 84 _ true (decide_eq_true p0)<|pu8<|sFix 92 _ true (decide_eq_true y0)<|pu11 ?_
  have k3:¬(q.kind=3):=by omega
  refine sFix 103 _ false (decide_eq_false k3)<|gOO f0 5 [0] rfl<|SE 108 (q.x.n:Int) 0 (fun l3=>jOR 41 rfl<|retT [.bool false]<|(by have m3:=(f0.drops [0,0,0,0,0]);exact fdF (by unfold fieldsP;simp only [Stage.v];omega) m3)) fun l3=>gOO f0 8 [0] rfl<|SE 116 (q.y.n:Int) 0 (fun n3=>jOR 33 rfl<|retT [.bool false]<|(by have o3:=(f0.drops [0,0,0,0,0]);exact fdF (by unfold fieldsP;simp only [Stage.v];omega) o3)) fun n3=>pu1<|gY<|sBK f0 #[I 4] 3 fun _ _ p3=>gY ?_
  have q3:=(p3.picks [0,1])
  refine cXc #[Pt d0 0] call156 (p15_is q3) ?_
  rintro _ _ ⟨rfl,l0⟩
  refine pu1 ?_
  have r3:¬(q.kind=4):=by omega
  refine sFix 120 _ false (decide_eq_false r3)<|gOO l0 6 [0] rfl<|SE 126 q.bins 0 (fun s3=>jOR 23 rfl<|retT [.bool false]<|(by have t3:=(l0.drops [0,0,0,0,0,0]);exact fdF (by unfold fieldsP;simp only [Stage.v];omega) t3)) fun s3=>pu2 ?_
  have u3:¬(q.kind=6):=by omega
  exact sFix 128 _ false (decide_eq_false u3)<|gOO l0 7 [0] rfl<|SE 135 (q.ops.n:Int) 0 (fun v3=>jOR 14 rfl<|retT [.bool false]<|(by have w3:=(l0.drops [0,0,0,0,0,0]);exact fdF (by unfold fieldsP;simp only [Stage.v];omega) w3)) fun v3=>pu2<|sFix 137 _ true (decide_eq_true p0)<|jOR 12 rfl<|retT [.bool true]<|(by have x3:=(l0.drops [0,0,0,0,0,0]);exact fdT (by unfold fieldsP;simp only [Stage.v];omega) x3)
 ·refine jCO 3 rfl<|sBK i0 #[I 6] 3 fun _ _ y3=>?_
  have z3:=(y3.picks [0,1])
  refine cXc #[Pt d0 0] call156 (p15_is z3) ?_
  rintro _ _ ⟨rfl,g0⟩
  refine jOO 7 rfl ?_
  have q0:q.kind=1\/q.kind=2\/q.kind=3:=om
  refine sFix 42 _ true (decide_eq_true q0)<|pu8 ?_
  have a4:¬(q.kind=1):=by omega
  refine sFix 50 _ false (decide_eq_false a4)<|gOO g0 4 [0] rfl<|SE 54 q.kW 0 (fun b4=>jOR 95 rfl<|retT [.bool false]<|(by have c4:=(g0.drops [0,0,0,0,0]);exact fdF (by unfold fieldsP;simp only [Stage.v];omega) c4)) fun b4=>gOO g0 5 [0] rfl<|SE 59 q.kH 0 (fun d4=>jOR 90 rfl<|retT [.bool false]<|(by have e4:=(g0.drops [0,0,0,0,0]);exact fdF (by unfold fieldsP;simp only [Stage.v];omega) e4)) fun d4=>gOO g0 8 [0] rfl<|SE 67 (q.weights.n:Int) 0 (fun f4=>jOR 82 rfl<|retT [.bool false]<|(by have g4:=(g0.drops [0,0,0,0,0]);exact fdF (by unfold fieldsP;simp only [Stage.v];omega) g4)) fun f4=>pu2 ?_
  have z0:¬(q.kind=2):=by omega
  refine sFix 69 _ false (decide_eq_false z0)<|gOO g0 5 [0] rfl<|SE 74 (q.row.n:Int) 0 (fun h4=>jOR 75 rfl<|retT [.bool false]<|(by have i4:=(g0.drops [0,0,0,0,0]);exact fdF (by unfold fieldsP;simp only [Stage.v];omega) i4)) fun h4=>gOO g0 8 [0] rfl<|SE 82 (q.col.n:Int) 0 (fun j4=>jOR 67 rfl<|retT [.bool false]<|(by have k4:=(g0.drops [0,0,0,0,0]);exact fdF (by unfold fieldsP;simp only [Stage.v];omega) k4)) fun j4=>pu2<|sFix 84 _ true (decide_eq_true q0)<|pu8<|sFix 92 _ false (decide_eq_false z0)<|pu3 ?_
  have a1:q.kind=3:=om
  refine sFix 95 _ true (decide_eq_true a1)<|pu8<|sFix 103 _ true (decide_eq_true a1)<|pu14<|gY<|sBK g0 #[I 4] 3 fun _ _ l4=>gY ?_
  have m4:=(l4.picks [0,1])
  refine cXc #[Pt d0 0] call156 (p15_is m4) ?_
  rintro _ _ ⟨rfl,m0⟩
  refine pu1 ?_
  have n4:¬(q.kind=4):=by omega
  refine sFix 120 _ false (decide_eq_false n4)<|gOO m0 6 [0] rfl<|SE 126 q.bins 0 (fun o4=>jOR 23 rfl<|retT [.bool false]<|(by have p4:=(m0.drops [0,0,0,0,0,0]);exact fdF (by unfold fieldsP;simp only [Stage.v];omega) p4)) fun o4=>pu2 ?_
  have q4:¬(q.kind=6):=by omega
  exact sFix 128 _ false (decide_eq_false q4)<|gOO m0 7 [0] rfl<|SE 135 (q.ops.n:Int) 0 (fun r4=>jOR 14 rfl<|retT [.bool false]<|(by have s4:=(m0.drops [0,0,0,0,0,0]);exact fdF (by unfold fieldsP;simp only [Stage.v];omega) s4)) fun r4=>pu2<|sFix 137 _ true (decide_eq_true q0)<|jOR 12 rfl<|retT [.bool true]<|(by have t4:=(m0.drops [0,0,0,0,0,0]);exact fdT (by unfold fieldsP;simp only [Stage.v];omega) t4)
 ·refine jCO 3 rfl<|sBK i0 #[I 6] 3 fun _ _ u4=>?_
  have v4:=(u4.picks [0,1])
  refine cXc #[Pt d0 0] call156 (p15_is v4) ?_
  rintro _ _ ⟨rfl,a0⟩
  refine jOO 7 rfl ?_
  have r0:¬(q.kind=1\/q.kind=2\/q.kind=3):=om
  refine sFix 42 _ false (decide_eq_false r0)<|gOO a0 3 [200] rfl<|gY<|stepY (.bool (((q.edgePolicy:Int)==0)&&((q.edgeFill:Int)==0))) rfl rfl (Y_eqS rfl kr kr (eqve49 _ q.edgePolicy q.edgeFill 0 0))<|pu2<|bC ((q.edgePolicy:Int)=0/\(q.edgeFill:Int)=0) (fun b1=>sFix 48 _ false (show (((q.edgePolicy:Int)==0)&&((q.edgeFill:Int)==0))=false from by simpa using b1)<|jOR 101 rfl<|retT [.bool false]<|(by have w4:=(a0.drops [0,0,0,0,0]);exact fdF (by unfold fieldsP;simp only [Stage.v];omega) w4)) fun b1=>sFix 48 _ true (show (((q.edgePolicy:Int)==0)&&((q.edgeFill:Int)==0))=true from by simpa using b1)<|pu2 ?_
  have x4:¬(q.kind=1):=by omega
  refine sFix 50 _ false (decide_eq_false x4)<|gOO a0 4 [0] rfl<|SE 54 q.kW 0 (fun y4=>jOR 95 rfl<|retT [.bool false]<|(by have z4:=(a0.drops [0,0,0,0,0]);exact fdF (by unfold fieldsP;simp only [Stage.v];omega) z4)) fun y4=>gOO a0 5 [0] rfl<|SE 59 q.kH 0 (fun a5=>jOR 90 rfl<|retT [.bool false]<|(by have b5:=(a0.drops [0,0,0,0,0]);exact fdF (by unfold fieldsP;simp only [Stage.v];omega) b5)) fun a5=>gOO a0 8 [0] rfl<|SE 67 (q.weights.n:Int) 0 (fun c5=>jOR 82 rfl<|retT [.bool false]<|(by have d5:=(a0.drops [0,0,0,0,0]);exact fdF (by unfold fieldsP;simp only [Stage.v];omega) d5)) fun c5=>pu2 ?_
  have c1:¬(q.kind=2):=by omega
  refine sFix 69 _ false (decide_eq_false c1)<|gOO a0 5 [0] rfl<|SE 74 (q.row.n:Int) 0 (fun e5=>jOR 75 rfl<|retT [.bool false]<|(by have f5:=(a0.drops [0,0,0,0,0]);exact fdF (by unfold fieldsP;simp only [Stage.v];omega) f5)) fun e5=>gOO a0 8 [0] rfl<|SE 82 (q.col.n:Int) 0 (fun g5=>jOR 67 rfl<|retT [.bool false]<|(by have h5:=(a0.drops [0,0,0,0,0]);exact fdF (by unfold fieldsP;simp only [Stage.v];omega) h5)) fun g5=>pu2<|sFix 84 _ false (decide_eq_false r0)<|gOO a0 6 [0] rfl<|SE 90 q.shift 0 (fun i5=>jOR 59 rfl<|retT [.bool false]<|(by have j5:=(a0.drops [0,0,0,0,0]);exact fdF (by unfold fieldsP;simp only [Stage.v];omega) j5)) fun i5=>pu2<|sFix 92 _ false (decide_eq_false c1)<|pu3 ?_
  have d1:¬(q.kind=3):=by omega
  refine sFix 95 _ false (decide_eq_false d1)<|gOO a0 6 [0] rfl<|SE 101 q.shift2 0 (fun k5=>jOR 48 rfl<|retT [.bool false]<|(by have l5:=(a0.drops [0,0,0,0,0]);exact fdF (by unfold fieldsP;simp only [Stage.v];omega) l5)) fun k5=>pu2<|sFix 103 _ false (decide_eq_false d1)<|gOO a0 5 [0] rfl<|SE 108 (q.x.n:Int) 0 (fun m5=>jOR 41 rfl<|retT [.bool false]<|(by have n5:=(a0.drops [0,0,0,0,0]);exact fdF (by unfold fieldsP;simp only [Stage.v];omega) n5)) fun m5=>gOO a0 8 [0] rfl<|SE 116 (q.y.n:Int) 0 (fun o5=>jOR 33 rfl<|retT [.bool false]<|(by have p5:=(a0.drops [0,0,0,0,0]);exact fdF (by unfold fieldsP;simp only [Stage.v];omega) p5)) fun o5=>pu1<|gY<|sBK a0 #[I 4] 3 fun _ _ q5=>gY ?_
  have r5:=(q5.picks [0,1])
  refine cXc #[Pt d0 0] call156 (p15_is r5) ?_
  rintro _ _ ⟨rfl,n0⟩
  refine pu1 ?_
  have s5:q.kind=4:=om
  refine sFix 120 _ true (decide_eq_true s5)<|pu8 ?_
  have e1:¬(q.kind=6):=by omega
  exact sFix 128 _ false (decide_eq_false e1)<|gOO n0 7 [0] rfl<|SE 135 (q.ops.n:Int) 0 (fun t5=>jOR 14 rfl<|retT [.bool false]<|(by have u5:=(n0.drops [0,0,0,0,0,0]);exact fdF (by unfold fieldsP;simp only [Stage.v];omega) u5)) fun t5=>pu2<|sFix 137 _ false (decide_eq_false r0)<|pu3<|sFix 140 _ false (decide_eq_false e1)<|gOR n0 9 [0] rfl<|retT [.bool ((q.max_:Int)==0)]<|⟨rB (show ((q.max_:Int)==0)=decide (fieldsP q.v) from by rw [Bool.eq_iff_iff];simp only [decide_eq_true_eq,beq_iff_eq];unfold fieldsP;simp only [Stage.v];omega),(n0.drops [0,0,0,0,0,0])⟩
 ·refine jCO 3 rfl<|sBK i0 #[I 6] 3 fun _ _ w5=>?_
  have x5:=(w5.picks [0,1])
  refine cXc #[Pt d0 0] call156 (p15_is x5) ?_
  rintro _ _ ⟨rfl,b0⟩
  refine jOO 7 rfl ?_
  have s0:¬(q.kind=1\/q.kind=2\/q.kind=3):=om
  refine sFix 42 _ false (decide_eq_false s0)<|gOO b0 3 [200] rfl<|gY<|stepY (.bool (((q.edgePolicy:Int)==0)&&((q.edgeFill:Int)==0))) rfl rfl (Y_eqS rfl kr kr (eqve49 _ q.edgePolicy q.edgeFill 0 0))<|pu2<|bC ((q.edgePolicy:Int)=0/\(q.edgeFill:Int)=0) (fun f1=>sFix 48 _ false (show (((q.edgePolicy:Int)==0)&&((q.edgeFill:Int)==0))=false from by simpa using f1)<|jOR 101 rfl<|retT [.bool false]<|(by have y5:=(b0.drops [0,0,0,0,0]);exact fdF (by unfold fieldsP;simp only [Stage.v];omega) y5)) fun f1=>sFix 48 _ true (show (((q.edgePolicy:Int)==0)&&((q.edgeFill:Int)==0))=true from by simpa using f1)<|pu2 ?_
  have z5:¬(q.kind=1):=by omega
  refine sFix 50 _ false (decide_eq_false z5)<|gOO b0 4 [0] rfl<|SE 54 q.kW 0 (fun a6=>jOR 95 rfl<|retT [.bool false]<|(by have b6:=(b0.drops [0,0,0,0,0]);exact fdF (by unfold fieldsP;simp only [Stage.v];omega) b6)) fun a6=>gOO b0 5 [0] rfl<|SE 59 q.kH 0 (fun c6=>jOR 90 rfl<|retT [.bool false]<|(by have d6:=(b0.drops [0,0,0,0,0]);exact fdF (by unfold fieldsP;simp only [Stage.v];omega) d6)) fun c6=>gOO b0 8 [0] rfl<|SE 67 (q.weights.n:Int) 0 (fun e6=>jOR 82 rfl<|retT [.bool false]<|(by have f6:=(b0.drops [0,0,0,0,0]);exact fdF (by unfold fieldsP;simp only [Stage.v];omega) f6)) fun e6=>pu2 ?_
  have g1:¬(q.kind=2):=by omega
  refine sFix 69 _ false (decide_eq_false g1)<|gOO b0 5 [0] rfl<|SE 74 (q.row.n:Int) 0 (fun g6=>jOR 75 rfl<|retT [.bool false]<|(by have h6:=(b0.drops [0,0,0,0,0]);exact fdF (by unfold fieldsP;simp only [Stage.v];omega) h6)) fun g6=>gOO b0 8 [0] rfl<|SE 82 (q.col.n:Int) 0 (fun i6=>jOR 67 rfl<|retT [.bool false]<|(by have j6:=(b0.drops [0,0,0,0,0]);exact fdF (by unfold fieldsP;simp only [Stage.v];omega) j6)) fun i6=>pu2<|sFix 84 _ false (decide_eq_false s0)<|gOO b0 6 [0] rfl<|SE 90 q.shift 0 (fun k6=>jOR 59 rfl<|retT [.bool false]<|(by have l6:=(b0.drops [0,0,0,0,0]);exact fdF (by unfold fieldsP;simp only [Stage.v];omega) l6)) fun k6=>pu2<|sFix 92 _ false (decide_eq_false g1)<|pu3 ?_
  have h1:¬(q.kind=3):=by omega
  refine sFix 95 _ false (decide_eq_false h1)<|gOO b0 6 [0] rfl<|SE 101 q.shift2 0 (fun m6=>jOR 48 rfl<|retT [.bool false]<|(by have n6:=(b0.drops [0,0,0,0,0]);exact fdF (by unfold fieldsP;simp only [Stage.v];omega) n6)) fun m6=>pu2<|sFix 103 _ false (decide_eq_false h1)<|gOO b0 5 [0] rfl<|SE 108 (q.x.n:Int) 0 (fun o6=>jOR 41 rfl<|retT [.bool false]<|(by have p6:=(b0.drops [0,0,0,0,0]);exact fdF (by unfold fieldsP;simp only [Stage.v];omega) p6)) fun o6=>gOO b0 8 [0] rfl<|SE 116 (q.y.n:Int) 0 (fun q6=>jOR 33 rfl<|retT [.bool false]<|(by have r6:=(b0.drops [0,0,0,0,0]);exact fdF (by unfold fieldsP;simp only [Stage.v];omega) r6)) fun q6=>pu1<|gY<|sBK b0 #[I 4] 3 fun _ _ s6=>gY ?_
  have t6:=(s6.picks [0,1])
  refine cXc #[Pt d0 0] call156 (p15_is t6) ?_
  rintro _ _ ⟨rfl,j0⟩
  refine pu1 ?_
  have u6:¬(q.kind=4):=by omega
  refine sFix 120 _ false (decide_eq_false u6)<|gOO j0 6 [0] rfl<|SE 126 q.bins 0 (fun v6=>jOR 23 rfl<|retT [.bool false]<|(by have w6:=(j0.drops [0,0,0,0,0,0]);exact fdF (by unfold fieldsP;simp only [Stage.v];omega) w6)) fun v6=>pu2 ?_
  have i1:¬(q.kind=6):=by omega
  exact sFix 128 _ false (decide_eq_false i1)<|gOO j0 7 [0] rfl<|SE 135 (q.ops.n:Int) 0 (fun x6=>jOR 14 rfl<|retT [.bool false]<|(by have y6:=(j0.drops [0,0,0,0,0,0]);exact fdF (by unfold fieldsP;simp only [Stage.v];omega) y6)) fun x6=>pu2<|sFix 137 _ false (decide_eq_false s0)<|pu3<|sFix 140 _ false (decide_eq_false i1)<|gOR j0 9 [0] rfl<|retT [.bool ((q.max_:Int)==0)]<|⟨rB (show ((q.max_:Int)==0)=decide (fieldsP q.v) from by rw [Bool.eq_iff_iff];simp only [decide_eq_true_eq,beq_iff_eq];unfold fieldsP;simp only [Stage.v];omega),(j0.drops [0,0,0,0,0,0])⟩
 refine jCO 3 rfl<|sBK i0 #[I 6] 3 fun _ _ a7=>?_
 have b7:=(a7.picks [0,1])
 refine cXc #[Pt d0 0] call156 (p15_is b7) ?_
 rintro _ _ ⟨rfl,c0⟩
 refine jOO 7 rfl ?_
 have t0:¬(q.kind=1\/q.kind=2\/q.kind=3):=om
 refine sFix 42 _ false (decide_eq_false t0)<|gOO c0 3 [200] rfl<|gY<|stepY (.bool (((q.edgePolicy:Int)==0)&&((q.edgeFill:Int)==0))) rfl rfl (Y_eqS rfl kr kr (eqve49 _ q.edgePolicy q.edgeFill 0 0))<|pu2<|bC ((q.edgePolicy:Int)=0/\(q.edgeFill:Int)=0) (fun j1=>sFix 48 _ false (show (((q.edgePolicy:Int)==0)&&((q.edgeFill:Int)==0))=false from by simpa using j1)<|jOR 101 rfl<|retT [.bool false]<|(by have c7:=(c0.drops [0,0,0,0,0]);exact fdF (by unfold fieldsP;simp only [Stage.v];omega) c7)) fun j1=>sFix 48 _ true (show (((q.edgePolicy:Int)==0)&&((q.edgeFill:Int)==0))=true from by simpa using j1)<|pu2 ?_
 have d7:¬(q.kind=1):=by omega
 refine sFix 50 _ false (decide_eq_false d7)<|gOO c0 4 [0] rfl<|SE 54 q.kW 0 (fun e7=>jOR 95 rfl<|retT [.bool false]<|(by have f7:=(c0.drops [0,0,0,0,0]);exact fdF (by unfold fieldsP;simp only [Stage.v];omega) f7)) fun e7=>gOO c0 5 [0] rfl<|SE 59 q.kH 0 (fun g7=>jOR 90 rfl<|retT [.bool false]<|(by have h7:=(c0.drops [0,0,0,0,0]);exact fdF (by unfold fieldsP;simp only [Stage.v];omega) h7)) fun g7=>gOO c0 8 [0] rfl<|SE 67 (q.weights.n:Int) 0 (fun i7=>jOR 82 rfl<|retT [.bool false]<|(by have j7:=(c0.drops [0,0,0,0,0]);exact fdF (by unfold fieldsP;simp only [Stage.v];omega) j7)) fun i7=>pu2 ?_
 have k1:¬(q.kind=2):=by omega
 refine sFix 69 _ false (decide_eq_false k1)<|gOO c0 5 [0] rfl<|SE 74 (q.row.n:Int) 0 (fun k7=>jOR 75 rfl<|retT [.bool false]<|(by have l7:=(c0.drops [0,0,0,0,0]);exact fdF (by unfold fieldsP;simp only [Stage.v];omega) l7)) fun k7=>gOO c0 8 [0] rfl<|SE 82 (q.col.n:Int) 0 (fun m7=>jOR 67 rfl<|retT [.bool false]<|(by have n7:=(c0.drops [0,0,0,0,0]);exact fdF (by unfold fieldsP;simp only [Stage.v];omega) n7)) fun m7=>pu2<|sFix 84 _ false (decide_eq_false t0)<|gOO c0 6 [0] rfl<|SE 90 q.shift 0 (fun o7=>jOR 59 rfl<|retT [.bool false]<|(by have p7:=(c0.drops [0,0,0,0,0]);exact fdF (by unfold fieldsP;simp only [Stage.v];omega) p7)) fun o7=>pu2<|sFix 92 _ false (decide_eq_false k1)<|pu3 ?_
 have l1:¬(q.kind=3):=by omega
 refine sFix 95 _ false (decide_eq_false l1)<|gOO c0 6 [0] rfl<|SE 101 q.shift2 0 (fun q7=>jOR 48 rfl<|retT [.bool false]<|(by have r7:=(c0.drops [0,0,0,0,0]);exact fdF (by unfold fieldsP;simp only [Stage.v];omega) r7)) fun q7=>pu2<|sFix 103 _ false (decide_eq_false l1)<|gOO c0 5 [0] rfl<|SE 108 (q.x.n:Int) 0 (fun s7=>jOR 41 rfl<|retT [.bool false]<|(by have t7:=(c0.drops [0,0,0,0,0]);exact fdF (by unfold fieldsP;simp only [Stage.v];omega) t7)) fun s7=>gOO c0 8 [0] rfl<|SE 116 (q.y.n:Int) 0 (fun u7=>jOR 33 rfl<|retT [.bool false]<|(by have v7:=(c0.drops [0,0,0,0,0]);exact fdF (by unfold fieldsP;simp only [Stage.v];omega) v7)) fun u7=>pu1<|gY<|sBK c0 #[I 4] 3 fun _ _ w7=>gY ?_
 have x7:=(w7.picks [0,1])
 refine cXc #[Pt d0 0] call156 (p15_is x7) ?_
 rintro _ _ ⟨rfl,u0⟩
 refine pu1 ?_
 have y7:¬(q.kind=4):=by omega
 exact sFix 120 _ false (decide_eq_false y7)<|gOO u0 6 [0] rfl<|SE 126 q.bins 0 (fun z7=>jOR 23 rfl<|retT [.bool false]<|(by have a8:=(u0.drops [0,0,0,0,0,0]);exact fdF (by unfold fieldsP;simp only [Stage.v];omega) a8)) fun z7=>pu2<|(by have m1:q.kind=6:=om;exact sFix 128 _ true (decide_eq_true m1)<|pu9<|sFix 137 _ false (decide_eq_false t0)<|pu3<|sFix 140 _ true (decide_eq_true m1)<|jOR 9 rfl<|retT [.bool true]<|(by have b8:=(u0.drops [0,0,0,0,0,0]);exact fdT (by unfold fieldsP;simp only [Stage.v];omega) b8))
def ptCode (q:StageV) (s t:Shape):Int:=if pwCode q.ops (decide (q.kind=6/\¬q.b=-1)) s.max_ t.max_ q.max_=0 then (if (q.kind=6/\¬q.b=-1)/\¬(s.w=t.w/\s.h=t.h) then 8 else 0) else pwCode q.ops (decide (q.kind=6/\¬q.b=-1)) s.max_ t.max_ q.max_
theorem pt_kernel {q:StageV} {s t:Shape} (h:¬(1<=q.kind/\q.kind<=5)):ptCode q s t=(kernelV q s t).2:=by
  unfold ptCode kernelV
  rw [if_neg (show ¬q.kind=1 by omega),if_neg (show ¬q.kind=2 by omega),if_neg (show ¬q.kind=3 by omega),if_neg (show ¬q.kind=4 by omega),if_neg (show ¬q.kind=5 by omega)]
  split
  · split<;>rfl
  · rfl
theorem p15_point (q:Stage) (s:Shape) (t:Shape) (hq:Stage.Ok [H] q) (hS:Sat W w (H::F)):
  Ro prog 158 #[.agg (encStage q).toArray, .agg #[I s.w,I s.h,I s.max_], .agg #[I t.w,I t.h,I t.max_]] (I (ptCode q.v s t)) W w (H::F):=by
 have z0:=hq.weights.ll
 have C0:=hq.row.ll
 have A0:=hq.col.ll
 have D0:=hq.x.ll
 have E0:=hq.y.ll
 have B0:=hq.ops.ll
 refine callsK 61 func158 rfl<|jCO 2 rfl<|sBx hS (encStage q) fun _ _ j0=>sBx j0 [I s.w,I s.h,I s.max_] fun _ _ k0=>sBx k0 [I t.w,I t.h,I t.max_] fun _ _ g0=>gOO g0 6 [1802] rfl<|cS (p15_pair q (hq.of_mem (mF 3)) g0.flat) fun _ h0=>gOO h0 9 [2] rfl<|cS (p14_valid q.ops.a q.ops.n q.ops.k q.ops.l (decide (q.kind=6/\¬q.b=-1)) (hq.ops.fl 3) h0.flat) fun _ b0=>jOC 9 rfl<|CN (opsCode q.ops.l (decide (q.kind=6/\¬q.b=-1))) 0 (fun a0=>jCR 8 rfl<|retT [I (opsCode q.ops.l (decide (q.kind=6/\¬q.b=-1)))]<|(by have l0:=(b0.drops [0,0,0]);have y0:pwCode q.v.ops (decide (q.v.kind=6/\¬q.v.b=-1)) s.max_ t.max_ q.v.max_=opsCode q.v.ops (decide (q.v.kind=6/\¬q.v.b=-1)):=(by unfold pwCode;rw [if_neg (show ¬opsCode q.v.ops (decide (q.v.kind=6/\¬q.v.b=-1))=0 from a0)]);have hk:ptCode q.v s t=(opsCode q.ops.l (decide (q.kind=6/\¬q.b=-1))):=(by unfold ptCode;rw [if_neg (fun h=>(show ¬opsCode q.v.ops (decide (q.v.kind=6/\¬q.v.b=-1))=0 from a0) (y0.symm.trans h)),y0];rfl);exact ⟨by rw [hk];rfl,l0⟩)) fun a0=>gCO b0 9 [2] rfl<|sD 25 (q.max_<1) (fun m0=>jOR 14 rfl<|retT [I 2]<|(by have n0:=(b0.drops [0,0,0]);have y0:pwCode q.v.ops (decide (q.v.kind=6/\¬q.v.b=-1)) s.max_ t.max_ q.v.max_=2:=(by unfold pwCode;rw [if_pos (show opsCode q.v.ops (decide (q.v.kind=6/\¬q.v.b=-1))=0 from a0),if_neg (by simp only [Stage.v];omega)]);have hk:ptCode q.v s t=2:=(by unfold ptCode;rw [if_neg (fun h=>by have h9:=y0.symm.trans h;revert h9;decide),y0]);exact ⟨by rw [hk];rfl,n0⟩)) fun m0=>?_
 refine gOC b0 6 [2] rfl<|cD (q.max_>4294967296) (fun o0=>jCR 7 rfl<|retT [I 2]<|(by have p0:=(b0.drops [0,0,0]);have y0:pwCode q.v.ops (decide (q.v.kind=6/\¬q.v.b=-1)) s.max_ t.max_ q.v.max_=2:=(by unfold pwCode;rw [if_pos (show opsCode q.v.ops (decide (q.v.kind=6/\¬q.v.b=-1))=0 from a0),if_neg (by simp only [Stage.v];omega)]);have hk:ptCode q.v s t=2:=(by unfold ptCode;rw [if_neg (fun h=>by have h9:=y0.symm.trans h;revert h9;decide),y0]);exact ⟨by rw [hk];rfl,p0⟩)) fun o0=>jCC 13 rfl<|CD (q.kind=6/\¬q.b=-1) (fun c0=>gCO b0 10 [2,1] rfl<|cS (p14_interval q.ops.a q.ops.n q.ops.k q.ops.l s.max_ 1 (hq.ops.fl 3) b0.flat) fun _ i0=>jOC 15 rfl<|CN ((ivRes q.ops.l s.max_ 1).2.2) 0 (fun f0=>jCR 8 rfl<|retT [I ((ivRes q.ops.l s.max_ 1).2.2)]<|(by have q0:=(i0.drops [0,0,0]);have y0:pwCode q.v.ops (decide (q.v.kind=6/\¬q.v.b=-1)) s.max_ t.max_ q.v.max_=(ivRes q.v.ops s.max_ 1).2.2:=(by unfold pwCode;rw [if_pos (show opsCode q.v.ops (decide (q.v.kind=6/\¬q.v.b=-1))=0 from a0),if_pos (by simp only [Stage.v];omega),if_neg (by rw [(decide_eq_false (p:=q.v.kind=6/\¬q.v.b=-1) c0)];decide)]);have hk:ptCode q.v s t=(ivRes q.ops.l s.max_ 1).2.2:=(by unfold ptCode;rw [if_neg (fun h=>f0 (y0.symm.trans h)),y0];rfl);exact ⟨by rw [hk];rfl,q0⟩)) fun f0=>jCO 7 rfl<|sFix 47 _ false (decide_eq_false c0)<|jOR 24 rfl<|retT [I 0]<|(by have r0:=(i0.drops [0,0,0]);have y0:pwCode q.v.ops (decide (q.v.kind=6/\¬q.v.b=-1)) s.max_ t.max_ q.v.max_=(ivRes q.v.ops s.max_ 1).2.2:=(by unfold pwCode;rw [if_pos (show opsCode q.v.ops (decide (q.v.kind=6/\¬q.v.b=-1))=0 from a0),if_pos (by simp only [Stage.v];omega),if_neg (by rw [(decide_eq_false (p:=q.v.kind=6/\¬q.v.b=-1) c0)];decide)]);have hk:ptCode q.v s t=0:=(by unfold ptCode;rw [if_pos (y0.trans f0),if_neg (by simp only [Stage.v];omega)]);exact ⟨by rw [hk];rfl,r0⟩)) fun c0=>?_
 refine gCO b0 14 [0,2,1] rfl<|cS (p14_interval q.ops.a q.ops.n q.ops.k q.ops.l s.max_ t.max_ (hq.ops.fl 3) b0.flat) fun _ d0=>jOC 15 rfl<|CN ((ivRes q.ops.l s.max_ t.max_).2.2) 0 (fun e0=>jCR 8 rfl<|retT [I ((ivRes q.ops.l s.max_ t.max_).2.2)]<|(by have s0:=(d0.drops [0,0,0]);have y0:pwCode q.v.ops (decide (q.v.kind=6/\¬q.v.b=-1)) s.max_ t.max_ q.v.max_=(ivRes q.v.ops s.max_ t.max_).2.2:=(by unfold pwCode;rw [if_pos (show opsCode q.v.ops (decide (q.v.kind=6/\¬q.v.b=-1))=0 from a0),if_pos (by simp only [Stage.v];omega),if_pos (decide_eq_true (p:=q.v.kind=6/\¬q.v.b=-1) c0)]);have hk:ptCode q.v s t=(ivRes q.ops.l s.max_ t.max_).2.2:=(by unfold ptCode;rw [if_neg (fun h=>e0 (y0.symm.trans h)),y0];rfl);exact ⟨by rw [hk];rfl,s0⟩)) fun e0=>jCO 7 rfl<|sFix 47 _ true (decide_eq_true c0)<|gOO d0 6 [1,0] rfl<|SN 53 s.w t.w (fun t0=>jOR 17 rfl<|retT [I 8]<|(by have u0:=(d0.drops [0,0,0]);have y0:pwCode q.v.ops (decide (q.v.kind=6/\¬q.v.b=-1)) s.max_ t.max_ q.v.max_=(ivRes q.v.ops s.max_ t.max_).2.2:=(by unfold pwCode;rw [if_pos (show opsCode q.v.ops (decide (q.v.kind=6/\¬q.v.b=-1))=0 from a0),if_pos (by simp only [Stage.v];omega),if_pos (decide_eq_true (p:=q.v.kind=6/\¬q.v.b=-1) c0)]);have hk:ptCode q.v s t=8:=(by unfold ptCode;rw [if_pos (y0.trans e0),if_pos (by simp only [Stage.v];omega)]);exact ⟨by rw [hk];rfl,u0⟩)) fun t0=>?_
 refine gOC d0 9 [1,0] rfl<|CN s.h t.h (fun v0=>jCR 7 rfl<|retT [I 8]<|(by have w0:=(d0.drops [0,0,0]);have y0:pwCode q.v.ops (decide (q.v.kind=6/\¬q.v.b=-1)) s.max_ t.max_ q.v.max_=(ivRes q.v.ops s.max_ t.max_).2.2:=(by unfold pwCode;rw [if_pos (show opsCode q.v.ops (decide (q.v.kind=6/\¬q.v.b=-1))=0 from a0),if_pos (by simp only [Stage.v];omega),if_pos (decide_eq_true (p:=q.v.kind=6/\¬q.v.b=-1) c0)]);have hk:ptCode q.v s t=8:=(by unfold ptCode;rw [if_pos (y0.trans e0),if_pos (by simp only [Stage.v];omega)]);exact ⟨by rw [hk];rfl,w0⟩)) fun v0=>jCR 8 rfl<|retT [I 0] ?_
 have x0:=(d0.drops [0,0,0])
 have y0:pwCode q.v.ops (decide (q.v.kind=6/\¬q.v.b=-1)) s.max_ t.max_ q.v.max_=(ivRes q.v.ops s.max_ t.max_).2.2:=by unfold pwCode;rw [if_pos (show opsCode q.v.ops (decide (q.v.kind=6/\¬q.v.b=-1))=0 from a0),if_pos (by simp only [Stage.v];omega),if_pos (decide_eq_true (p:=q.v.kind=6/\¬q.v.b=-1) c0)]
 have hk:ptCode q.v s t=0:=by unfold ptCode;rw [if_pos (y0.trans e0),if_neg (by simp only [Stage.v];omega)]
 exact ⟨by rw [hk];rfl,x0⟩
theorem p15_check (q:Stage) (s:Shape) (t:Shape) (hq:Stage.Ok [H] q) (hS:Sat W w (H::F)):
  Ro prog 125 #[.agg (encStage q).toArray, .agg #[I s.w,I s.h,I s.max_], .agg #[I t.w,I t.h,I t.max_]] (I ((kernelV q.v s t).2)) W w (H::F):=by
 have x0:=hq.weights.ll
 have A0:=hq.row.ll
 have y0:=hq.col.ll
 have B0:=hq.x.ll
 have C0:=hq.y.ll
 have z0:=hq.ops.ll
 refine callsK 71 func125 rfl<|jCO 2 rfl<|sBx hS (encStage q) fun _ _ b0=>sBx b0 [I s.w,I s.h,I s.max_] fun _ _ c0=>sBx c0 [I t.w,I t.h,I t.max_] fun _ _ a0=>gOC a0 17 [2] rfl<|cE q.kind 1 (fun d0=>gCO a0 14 [1,2,2,2,2,2] rfl<|cS (p9_check s.max_ q.kW q.kH q.weights.a q.weights.n q.weights.k q.weights.l q.shift q.max_ (hq.weights.fl 3) a0.flat) fun _ e0=>jOR 6 rfl<|retT [I (convCode s.max_ q.kW q.kH q.weights.l q.shift q.max_)]<|(by have f0:=(e0.drops [0,0,0]);have hk:(kernelV q.v s t).2=(convCode s.max_ q.kW q.kH q.weights.l q.shift q.max_):=(by unfold kernelV;rw [if_pos (by simp only [Stage.v];omega)];rfl);exact ⟨by rw [hk];rfl,f0⟩)) fun d0=>jCC 6 rfl<|cE q.kind 2 (fun g0=>gCO a0 14 [1,2,2,2,2,2] rfl<|cS (p10_check s.max_ q.row.a q.row.n q.row.k q.row.l q.col.a q.col.n q.col.k q.col.l q.shift q.shift2 q.max_ (hq.row.fl 3) (hq.col.fl 3) a0.flat) fun _ h0=>jOR 6 rfl<|retT [I (sepCode s.max_ q.row.l q.col.l q.shift q.shift2 q.max_)]<|(by have i0:=(h0.drops [0,0,0]);have hk:(kernelV q.v s t).2=(sepCode s.max_ q.row.l q.col.l q.shift q.shift2 q.max_):=(by unfold kernelV;rw [if_neg (by simp only [Stage.v];omega),if_pos (by simp only [Stage.v];omega)];rfl);exact ⟨by rw [hk];rfl,i0⟩)) fun g0=>?_
 refine jCC 6 rfl<|cE q.kind 3 (fun j0=>gCO a0 13 [301,2,2,2,2,2] rfl<|cS (p11_check s q.x.a q.x.n q.x.k q.x.l q.y.a q.y.n q.y.k q.y.l q.shift q.shift2 q.max_ (hq.x.fl 3) (fun z hz=>(hq.xD z hz).of_mem (mF 3)) (hq.y.fl 3) (fun z hz=>(hq.yD z hz).of_mem (mF 3)) a0.flat) fun _ k0=>jOR 6 rfl<|retT [I (resCode s.w s.h s.max_ (q.x.l.map Tap.v) (q.y.l.map Tap.v) q.shift q.shift2 q.max_)]<|(by have l0:=(k0.drops [0,0,0]);have hk:(kernelV q.v s t).2=(resCode s.w s.h s.max_ (q.x.l.map Tap.v) (q.y.l.map Tap.v) q.shift q.shift2 q.max_):=(by unfold kernelV;rw [if_neg (by simp only [Stage.v];omega),if_neg (by simp only [Stage.v];omega),if_pos (by simp only [Stage.v];omega)];rfl);exact ⟨by rw [hk];rfl,l0⟩)) fun j0=>jCC 6 rfl<|CE q.kind 4 (fun m0=>jCC 6 rfl<|CE q.kind 5 (fun n0=>gCO a0 8 [1802,301,300] rfl<|cS (p15_point q s t (hq.of_mem (mF 3)) a0.flat) fun _ o0=>jOR 4 rfl<|retT [I (ptCode q.v s t)]<|(by have p0:=(o0.drops [0,0,0]);have hk:(kernelV q.v s t).2=(ptCode q.v s t):=(pt_kernel (by simp only [Stage.v];omega)).symm;exact ⟨by rw [hk];rfl,p0⟩)) fun n0=>gCO a0 3 [301] rfl<|cS (p13_check s a0.flat) fun _ q0=>jOR 6 rfl<|retT [I (intCode s.w s.h s.max_)]<|(by have r0:=(q0.drops [0,0,0]);have hk:(kernelV q.v s t).2=(intCode s.w s.h s.max_):=(by unfold kernelV intCode;rw [if_neg (by simp only [Stage.v];omega),if_neg (by simp only [Stage.v];omega),if_neg (by simp only [Stage.v];omega),if_neg (by simp only [Stage.v];omega),if_pos (by simp only [Stage.v];omega)];split<;>rfl);exact ⟨by rw [hk];rfl,r0⟩)) fun m0=>?_
 refine gCO a0 7 [2] rfl<|sD 58 (q.bins<1) (fun s0=>jOR 16 rfl<|retT [I 9]<|(by have t0:=(a0.drops [0,0,0]);have hk:(kernelV q.v s t).2=9:=(by unfold kernelV;rw [if_neg (by simp only [Stage.v];omega),if_neg (by simp only [Stage.v];omega),if_neg (by simp only [Stage.v];omega),if_pos (by simp only [Stage.v];omega),if_neg (by simp only [Stage.v];omega)]);exact ⟨by rw [hk];rfl,t0⟩)) fun s0=>gOC a0 6 [2] rfl<|cD (q.bins>128) (fun u0=>jCR 9 rfl<|retT [I 9]<|(by have v0:=(a0.drops [0,0,0]);have hk:(kernelV q.v s t).2=9:=(by unfold kernelV;rw [if_neg (by simp only [Stage.v];omega),if_neg (by simp only [Stage.v];omega),if_neg (by simp only [Stage.v];omega),if_pos (by simp only [Stage.v];omega),if_neg (by simp only [Stage.v];omega)]);exact ⟨by rw [hk];rfl,v0⟩)) fun u0=>jCR 10 rfl<|retT [I 0] ?_
 have w0:=(a0.drops [0,0,0])
 have hk:(kernelV q.v s t).2=0:=by unfold kernelV;rw [if_neg (by simp only [Stage.v];omega),if_neg (by simp only [Stage.v];omega),if_neg (by simp only [Stage.v];omega),if_pos (by simp only [Stage.v];omega),if_pos (by simp only [Stage.v];omega)]
 exact ⟨by rw [hk];rfl,w0⟩
theorem kern_3 {q:Stage} {s t:Shape} (h:q.v.kind=3) (_:(kernelV q.v s t).2=0) (hx:(q.x.l.map Tap.v).length=q.x.n) (hy:(q.y.l.map Tap.v).length=q.y.n):(kernelV q.v s t).1=⟨(q.x.n:Int),(q.y.n:Int),q.max_⟩:=by
  unfold kernelV
  rw [if_neg (by omega),if_neg (by omega),if_pos h]
  simp only [Stage.v,hx,hy]
theorem kern_4 {q:Stage} {s t:Shape} (h:q.v.kind=4) (h0:(kernelV q.v s t).2=0):(kernelV q.v s t).1=⟨q.bins,1,s.w*s.h⟩:=by
  unfold kernelV at h0⊢
  rw [if_neg (by omega),if_neg (by omega),if_neg (by omega),if_pos h] at h0⊢
  split at h0
  · rename_i k;rw [if_pos k];rfl
  · cases h0
theorem kern_5 {q:Stage} {s t:Shape} (h:q.v.kind=5) (h0:(kernelV q.v s t).2=0):(kernelV q.v s t).1=⟨s.w,s.h,s.max_*s.w*s.h⟩:=by
  unfold kernelV at h0⊢
  rw [if_neg (by omega),if_neg (by omega),if_neg (by omega),if_neg (by omega),if_pos h] at h0⊢
  split at h0
  · rename_i k;rw [if_pos k];unfold mostV;rw [if_pos k,Int.mul_comm (s.w*s.h),<-Int.mul_assoc]
  · cases h0
theorem kern_0 {q:Stage} {s t:Shape} (h:¬(3<=q.v.kind/\q.v.kind<=5)) (h0:(kernelV q.v s t).2=0):(kernelV q.v s t).1=⟨s.w,s.h,q.max_⟩:=by
  unfold kernelV at h0⊢
  rw [if_neg (show ¬q.v.kind=3 by omega),if_neg (show ¬q.v.kind=4 by omega),if_neg (show ¬q.v.kind=5 by omega)] at h0⊢
  split
  · rfl
  · split
    · rfl
    · split
      · split<;>rfl
      · rfl
theorem p15_of (q:Stage) (s:Shape) (t:Shape) (hq:Stage.Ok [H] q) (hS:Sat W w (H::F)):
  Ro prog 85 #[.agg (encStage q).toArray, .agg #[I s.w,I s.h,I s.max_], .agg #[I t.w,I t.h,I t.max_]] (.tuple #[.agg #[I ((ofV q.v s t).1.w),I ((ofV q.v s t).1.h),I ((ofV q.v s t).1.max_)],I ((ofV q.v s t).2)]) W w (H::F):=by
 have A0:=hq.weights.ll
 have G0:=hq.row.ll
 have E0:=hq.col.ll
 have I0:=hq.x.le;have C0:=hq.x.len
 have J0:=hq.y.le;have D0:=hq.y.len
 have F0:=hq.ops.ll
 have M0:(q.x.l.map Tap.v).length=q.x.n:=by simp [C0]
 have N0:(q.y.l.map Tap.v).length=q.y.n:=by simp [D0]
 refine callsK 91 func85 rfl<|jCO 2 rfl<|sBx hS (encStage q) fun _ _ u0=>sBx u0 [I s.w,I s.h,I s.max_] fun _ _ v0=>sBx v0 [I t.w,I t.h,I t.max_] fun _ _ w0=>sAlloc w0 zeroValue65 fun _ _ g0=>gOO g0 7 [1803] rfl<|cS (p15_fields q (hq.of_mem (mF 4)) g0.flat) fun _ b0=>jOC 3 rfl<|CDn (fieldsP q.v) (fun x0=>jCO 3 rfl<|sTk b0 0 rfl [I 0,I 0,I 0] fun _ h0=>jOR 5 rfl<|retD h0 0 [I 0,I 0,I 0] (I 1)<|(by have y0:=(h0.drops [0,0,0,0]);have hk:ofV q.v s t=((⟨0,0,0⟩:Shape),1):=(by unfold ofV;rw [if_neg ‹_›]);exact ⟨by rw [hk];rfl,y0⟩)) fun x0=>jCC 2 rfl<|cutF b0 0 [3,4,5,6] (γ:=Unit) (fun _ R=>⟨[],R,0,(szP s/\ofV q.v s t=if ¬(q.v.kind=1\/q.v.kind=2\/q.v.kind=3)\/edgeP q.v s.max_ then (if (kernelV q.v s t).2=0 then ((kernelV q.v s t).1,0) else (⟨0,0,0⟩,(kernelV q.v s t).2)) else (⟨0,0,0⟩,1))⟩) ?_ ?_
 ·exact gCO b0 3 [302] rfl<|cS (p15_valid s b0.flat) fun _ c0=>pu2<|SDn 16 ((1:Int)<=s.w/\s.w<=(128:Int)/\(1:Int)<=s.h/\s.h<=(128:Int)/\s.w*s.h<=(4096:Int)/\(1:Int)<=s.max_/\s.max_<=(4294967296:Int)) (fun z0=>jOO 14 rfl<|sTk c0 0 rfl [I 0,I 0,I 0] fun _ i0=>jOR 5 rfl<|retD i0 0 [I 0,I 0,I 0] (I 2)<|(by have a1:=(i0.drops [0,0,0,0]);have hk:ofV q.v s t=((⟨0,0,0⟩:Shape),2):=(by unfold ofV;rw [if_pos ‹_›,if_neg (by unfold szP twoP;simp only [Stage.v];omega)]);exact ⟨by rw [hk];rfl,a1⟩)) fun z0=>gOO c0 1 [1803] rfl<|gY<|cS (p15_pair q (hq.of_mem (mF 4)) c0.flat) fun _ d0=>pu1<|SD 19 (q.kind=6/\¬q.b=-1) (fun b1=>jOI 9 rfl<|⟨(),alB,d0,⟨by unfold szP;omega,by unfold ofV;rw [if_pos ‹_›,if_pos (by unfold szP twoP;simp only [Stage.v];omega)]⟩⟩) fun b1=>gOO d0 1 [301] rfl<|gY<|cS (p15_valid t d0.flat) fun _ j0=>jOC 5 rfl<|cDn ((1:Int)<=t.w/\t.w<=(128:Int)/\(1:Int)<=t.h/\t.h<=(128:Int)/\t.w*t.h<=(4096:Int)/\(1:Int)<=t.max_/\t.max_<=(4294967296:Int)) (fun c1=>jCI 1 rfl<|⟨(),alB,j0,⟨by unfold szP;omega,by unfold ofV;rw [if_pos ‹_›,if_pos (by unfold szP twoP;simp only [Stage.v];omega)]⟩⟩) fun c1=>jCO 3 rfl<|sTk j0 0 rfl [I 0,I 0,I 0] fun _ k0=>jOR 5 rfl<|retD k0 0 [I 0,I 0,I 0] (I 2)<|(by have d1:=(k0.drops [0,0,0,0]);have hk:ofV q.v s t=((⟨0,0,0⟩:Shape),2):=(by unfold ofV;rw [if_pos ‹_›,if_neg (by unfold szP twoP;simp only [Stage.v];omega)]);exact ⟨by rw [hk];rfl,d1⟩)
 rintro _ ρ _ ⟨e0,hF⟩
 refine cutF e0 0 [3,4,5,6] (γ:=Unit) (fun _ R=>⟨[],R,0,(szP s/\ofV q.v s t=(if (kernelV q.v s t).2=0 then ((kernelV q.v s t).1,0) else (⟨0,0,0⟩,(kernelV q.v s t).2)))⟩) ?_ ?_
 · exact jCC 1 rfl<|(by obtain ⟨H0,hF⟩:=hF;have K0:=H0;unfold szP at K0;exact gCO e0 3 [3] rfl<|cS (p15_edged q.kind e0.flat) fun _ f0=>pu1<|SD 29 (q.kind=1\/q.kind=2\/q.kind=3) (fun e1=>jOI 11 rfl<|⟨(),alB,f0,⟨H0,by rw [hF,if_pos (by unfold edgeP;simp only [Stage.v];(try dsimp only at*);omega)]⟩⟩) fun e1=>gOO f0 4 [203,2] rfl<|gY<|cS (p3_valid (⟨q.edgePolicy,q.edgeFill⟩:Edge) s.max_ f0.flat) fun _ l0=>jOC 4 rfl<|cDn (((⟨q.edgePolicy,q.edgeFill⟩:Edge).policy=3/\0<=(⟨q.edgePolicy,q.edgeFill⟩:Edge).fill/\(⟨q.edgePolicy,q.edgeFill⟩:Edge).fill<=s.max_)\/(0<=(⟨q.edgePolicy,q.edgeFill⟩:Edge).policy/\(⟨q.edgePolicy,q.edgeFill⟩:Edge).policy<3/\(⟨q.edgePolicy,q.edgeFill⟩:Edge).fill=0)) (fun f1=>jCI 1 rfl<|⟨(),alB,l0,⟨H0,by rw [hF,if_pos (by unfold edgeP;simp only [Stage.v];(try dsimp only at*);omega)]⟩⟩) fun f1=>jCO 3 rfl<|sTk l0 0 rfl [I 0,I 0,I 0] fun _ m0=>jOR 5 rfl<|retD m0 0 [I 0,I 0,I 0] (I 1)<|⟨by rw [hF,if_neg (by unfold edgeP;simp only [Stage.v];(try dsimp only at*);omega)];rfl,(m0.drops [0,0,0,0])⟩)
 rintro _ ρ _ ⟨n0,hF⟩
 refine jCC 2 rfl ?_
 obtain ⟨H0,hF⟩:=hF;have K0:=H0;unfold szP at K0
 exact gCO n0 4 [1803,302,301] rfl<|cS (p15_check q s t (hq.of_mem (mF 4)) n0.flat) fun _ a0=>jOC 9 rfl<|CN ((kernelV q.v s t).2) 0 (fun o0=>jCO 4 rfl<|sTk a0 0 rfl [I 0,I 0,I 0] fun _ p0=>jOR 5 rfl<|retD p0 0 [I 0,I 0,I 0] (I ((kernelV q.v s t).2))<|⟨by rw [hF,if_neg ‹_›];rfl,(p0.drops [0,0,0,0])⟩) fun o0=>jCC 4 rfl<|(by have B0:(kernelV q.v s t).2=0:=o0;have P0:=mul_bd (a:=s.w) (b:=s.h) (A:=128) (B:=128) om om;have O0:=mul_bd (a:=s.max_) (b:=s.w) (A:=4294967296) (B:=128) om om;have L0:=mul_bd (a:=s.max_*s.w) (b:=s.h) (A:=549755813888) (B:=128) om om;exact gCC a0 12 [3] rfl<|cE q.kind 3 (fun i1=>gCO a0 11 [3,3,3] rfl<|sTk a0 0 rfl [I (q.x.n:Int),I (q.y.n:Int),I q.max_] fun _ q0=>jOR 6 rfl<|retD q0 0 [I (q.x.n:Int),I (q.y.n:Int),I q.max_] (I 0)<|⟨by rw [hF,if_pos B0,kern_3 (by simp only [Stage.v];omega) B0 M0 N0];rfl,(q0.drops [0,0,0,0])⟩) fun i1=>jCC 6 rfl<|cE q.kind 4 (fun k1=>gCO a0 8 [3,2,2] rfl<|sMul s.w s.h<|pu1<|sTk a0 0 rfl [I q.bins,I 1,I (s.w*s.h)] fun _ r0=>jOR 6 rfl<|retD r0 0 [I q.bins,I 1,I (s.w*s.h)] (I 0)<|⟨by rw [hF,if_pos B0,kern_4 (by simp only [Stage.v];omega) B0];rfl,(r0.drops [0,0,0,0])⟩) fun k1=>jCC 6 rfl<|CE q.kind 5 (fun m1=>gCO a0 12 [2,2,3] rfl<|sTk a0 0 rfl [I s.w,I s.h,I q.max_] fun _ s0=>jOR 4 rfl<|retD s0 0 [I s.w,I s.h,I q.max_] (I 0)<|⟨by rw [hF,if_pos B0,kern_0 (by simp only [Stage.v];omega) B0];rfl,(s0.drops [0,0,0,0])⟩) fun m1=>gCO a0 10 [2,2,2,2] rfl<|sMul s.max_ s.w<|gOO a0 2 [2] rfl<|sMul (s.max_*s.w) s.h<|pu1<|sTk a0 0 rfl [I s.w,I s.h,I ((s.max_*s.w)*s.h)] fun _ t0=>jOR 6 rfl<|retD t0 0 [I s.w,I s.h,I ((s.max_*s.w)*s.h)] (I 0)<|⟨by rw [hF,if_pos B0,kern_5 (by simp only [Stage.v];omega) B0];rfl,(t0.drops [0,0,0,0])⟩)
end Go.Proofs.YtghcddbhllkbmaaGreat

namespace Go.Proofs.YtghcddbhllkbmaaGreat
open Go Go.E Go.Proofs.Tryz
set_option linter.all false
set_option maxRecDepth 100000
set_option maxHeartbeats 2000000
variable {W w:World} {H:Chunk} {F:List Chunk}
def mrgB (l:List (List Int)) (bins:Int):List Int×Int:=if (mrgT l).2=0 then (if ((mrgT l).1.length:Int)=bins then ((mrgT l).1,0) else ([],8)) else ([],(mrgT l).2)
theorem addF_len {n:Nat}:∀(l:List (List Int)) (a:List Int),a.length=n->(∀z∈l,z.length=n)->(l.foldl addL a).length=n
  |[],_,ha,_=>ha
  |z::l,a,ha,h=>addF_len l (addL a z) (addL_ln ha (h z (List.mem_cons_self ..))) fun y hy=>h y (List.mem_cons_of_mem _ hy)
theorem mrgB_eq (l:List (List Int)) (bins:Int):mrgB l bins=if mrgC l=0 then (if mrgN l=bins then (mrgV l,0) else ([],8)) else ([],mrgC l):=by
 unfold mrgB mrgT
 by_cases h:mrgC l=0
 ·rw [if_pos h,if_pos rfl,if_pos h]
  have hl:((mrgV l).length:Int)=mrgN l:=by
   unfold mrgC at h
   split at h
   ·omega
   ·rename_i h0
    split at h
    · exact (by rename_i h1;have h2:∀z∈l,z.length=(mrgN l).toNat:=fun z hz=>(by have:=of_decide_eq_true (List.all_eq_true.1 h1.2 z hz);omega);have h3:=addF_len l (List.replicate (mrgN l).toNat 0) List.length_replicate h2;show (((l.foldl addL (List.replicate (mrgN l).toNat 0)).length:Nat):Int)=mrgN l;rw [h3];omega)
    ·omega
  dsimp only
  rw [hl]
 ·rw [if_neg h,if_neg h,if_neg h]
theorem cmp_n {s:StageV} {part:Int} {r:Rct} {p q own:PlaneV} {l:List (List Int)} {c:Int} (h:cmpC s part p q own=c) (hc:¬c=0):cmpT s part r p q own l=([],c):=by unfold cmpT;rw [if_neg (by omega),h]
theorem cmp_1 {s:StageV} {part:Int} {r:Rct} {p q own:PlaneV} {l:List (List Int)} (h:cmpC s part p q own=0) (h1:part=1):cmpT s part r p q own l=(partV p s.bins r,partC p s.bins r):=by unfold cmpT;rw [if_pos h,if_pos h1]
theorem cmp_2 {s:StageV} {part:Int} {r:Rct} {p q own:PlaneV} {l:List (List Int)} (h:cmpC s part p q own=0) (h2:part=2):cmpT s part r p q own l=mrgB l s.bins:=by unfold cmpT;rw [if_pos h,if_neg (by omega),if_pos h2,mrgB_eq]
theorem cmp_0 {s:StageV} {part:Int} {r:Rct} {p q own:PlaneV} {l:List (List Int)} (h:cmpC s part p q own=0) (h1:¬part=1) (h2:¬part=2):cmpT s part r p q own l=if (tilT s p q own r).2=0 then ((tilT s p q own r).1.pix,0) else ([],(tilT s p q own r).2):=by unfold cmpT;rw [if_pos h,if_neg h1,if_neg h2]
theorem cmpC_k {s:StageV} {part:Int} {p q own:PlaneV} (h:cmpC s part p q own=0):belongP s.kind part/\planeOK p=true/\(twoP s->planeOK q=true)/\(s.kind=5->planeOK own=true/\own.w=p.w/\own.h=p.h)/\(ofV s (shpOf p) (shpOf q)).2=0:=by
  unfold cmpC at h
  split at h
  · rename_i k;exact ⟨k.1,k.2.1,k.2.2.1,k.2.2.2,h⟩
  · omega
section
variable {own:PlaneV} {r:Rct}
theorem at_in {x y:Int} (hx:0<=x/\x<own.w) (hy:0<=y/\y<own.h):atV own x y=pixAt own x y:=if_neg (by omega)
theorem at_no {x y:Int} (h:x<0\/y<0):atV own x y=0:=if_pos (by omega)
theorem left_mix {n:Nat} (hn:(n:Int)=r.y1-r.y0):mixN (fun j=>atV own (r.x0-1) (r.y0+(j:Int))) (fun _=>0) n n=leftV own r:=by rw [mix_n];unfold leftV tabN;rw [show (r.y1-r.y0).toNat=n by omega]
theorem left_no (h:r.x0<=0):List.replicate (r.y1-r.y0).toNat 0=leftV own r:=tab_zero fun _ _=>at_no (by omega)
theorem top_no (h:r.y0<=0):List.replicate (r.x1-r.x0).toNat 0=topV own r:=tab_zero fun _ _=>at_no (by omega)
theorem top_cp {m:Nat} (hr:rIn r own.w own.h) (hl:(own.pix.length:Int)=own.w*own.h) (hy:0<r.y0) (hm:(r.x1-r.x0).toNat<=m) (h0:0<=(r.y0-1)*own.w+r.x0):
  (List.replicate (r.x1-r.x0).toNat (0:Int)).take 0++((own.pix.drop ((r.y0-1)*own.w+r.x0).toNat).take m).take (r.x1-r.x0).toNat++(List.replicate (r.x1-r.x0).toNat (0:Int)).drop (0+(r.x1-r.x0).toNat)=topV own r:=by
 obtain ⟨n,hn⟩:∃n:Nat,n=(r.x1-r.x0).toNat:=⟨_,rfl⟩
 obtain ⟨s,hs⟩:∃s:Nat,s=((r.y0-1)*own.w+r.x0).toNat:=⟨_,rfl⟩
 rw [<-hn,<-hs]
 rw [List.take_zero,List.nil_append,Nat.zero_add,List.drop_of_length_le (show (List.replicate n (0:Int)).length<=n by rw [List.length_replicate];omega),List.append_nil,List.take_take,Nat.min_eq_left om]
 unfold rIn at hr
 have hb:(r.y0-1)*own.w+own.w<=own.w*own.h:=(by have:=Int.mul_le_mul_of_nonneg_right (show r.y0<=own.h by omega) (show 0<=own.w by omega);have h2:(r.y0-1)*own.w+own.w=r.y0*own.w:=(by rw [Int.sub_mul,Int.one_mul];omega);rw [Int.mul_comm own.w own.h];omega)
 apply List.ext_getElem?
 intro k
 unfold topV
 rw [show (r.x1-r.x0).toNat=n by omega]
 by_cases hk:k<n
 ·rw [List.getElem?_take_of_lt hk,List.getElem?_drop,List.getElem?_map,List.getElem?_range hk,Option.map_some,at_in om om]
  unfold pixAt
  rw [List.getD_eq_getElem?_getD,show ((r.y0-1)*own.w+(r.x0+(k:Int))).toNat=s+k by omega,List.getElem?_eq_getElem om];rfl
 ·rw [List.getElem?_eq_none (by rw [List.length_take];omega),List.getElem?_eq_none (by rw [List.length_map,List.length_range];omega)]
end
theorem p21_belongs (k:Int) (m:Int) (hS:Sat W w (H::F)):
  Ro prog 84 #[I k,I m] (.bool (decide (belongP k m))) W w (H::F):=by
 exact callsK 15 func84 rfl<|jCC 12 rfl<|CE k 4 (fun a0=>jCR 10 rfl<|retT [.bool ((m:Int)==0)]<|⟨rB (by rw [Bool.eq_iff_iff,decide_eq_true_eq,beq_iff_eq];unfold belongP;omega),hS⟩) fun a0=>jCO 5 rfl<|sE 9 m 1 (fun b0=>jOR 8 rfl<|retT [.bool true]<|⟨rB (decide_eq_true (by unfold belongP;omega)).symm,hS⟩) fun b0=>jOR 8 rfl<|retT [.bool ((m:Int)==2)]<|⟨rB (by rw [Bool.eq_iff_iff,decide_eq_true_eq,beq_iff_eq];unfold belongP;omega),hS⟩
theorem p21_shape (p:Plane) (hp:Plane.Ok [H] p) (hS:Sat W w (H::F)):
  Ro prog 86 #[.agg (encPlane p).toArray] (.agg #[I p.w,I p.h,I p.max_]) W w (H::F):=by
 have d0:=hp.pix.ll
 exact callsK 10 func86 rfl<|jCO 2 rfl<|sBx hS (encPlane p) fun _ _ c0=>sAlloc c0 zeroValue65 fun _ _ a0=>gOO a0 11 [1,1,1] rfl<|sTk a0 0 rfl [I p.w,I p.h,I p.max_] fun _ b0=>jOR 3 rfl<|retN (vs:=[.agg #[I p.w,I p.h,I p.max_]]) rfl (.cons (.cell _ _ _ _ kr (lvA b0 0 0 [I p.w,I p.h,I p.max_] (isAgg65 _) (sizeOf65 _) rfl rfl rfl)) .nil)<|⟨rfl,(b0.drops [0,0])⟩
theorem p21_whole (p:Plane) (hp:Plane.Ok [H] p) (hS:Sat W w (H::F)):
  Ro prog 55 #[.agg (encPlane p).toArray] (.agg #[I 0,I 0,I p.w,I p.h]) W w (H::F):=by
 have d0:=hp.pix.ll
 exact callsK 8 func55 rfl<|jCO 2 rfl<|sBx hS (encPlane p) fun _ _ c0=>sAlloc c0 zeroValue45 fun _ _ a0=>gOO a0 9 [1,1] rfl<|sTk a0 0 rfl [I 0,I 0,I p.w,I p.h] fun _ b0=>jOR 3 rfl<|retN (vs:=[.agg #[I 0,I 0,I p.w,I p.h]]) rfl (.cons (.cell _ _ _ _ kr (lvA b0 0 0 [I 0,I 0,I p.w,I p.h] (isAgg45 _) (sizeOf45 _) rfl rfl rfl)) .nil)<|⟨rfl,(b0.drops [0,0])⟩
theorem p21_check (s0:Stage) (m:Int) (p:Plane) (u0:Plane) (own:Plane) (two:Bool) (hs0:Stage.Ok [H] s0) (hp:Plane.Ok [H] p) (hu0:Plane.Ok [H] u0) (hown:Plane.Ok [H] own) (ht:two=true↔twoP s0.v) (hS:Sat W w (H::F)):
  Ro prog 48 #[.agg (encStage s0).toArray,I m, .agg (encPlane p).toArray, .agg (encPlane u0).toArray, .agg (encPlane own).toArray, .bool two] (I (cmpC s0.v m p.v u0.v own.v)) W w (H::F):=by
 have A0:=hs0.weights.ll
 have E0:=hs0.row.ll
 have C0:=hs0.col.ll
 have H0:=hs0.x.ll
 have I0:=hs0.y.ll
 have D0:=hs0.ops.ll
 have G0:=hp.pix.ll
 have F0:=hu0.pix.ll
 have B0:=hown.pix.ll
 refine callsK 65 func48 rfl<|jCO 2 rfl<|sBx hS (encStage s0) fun _ _ x0=>sBx x0 (encPlane p) fun _ _ y0=>sBx y0 (encPlane u0) fun _ _ z0=>sBx z0 (encPlane own) fun _ _ g0=>jOC 3 rfl<|cutF g0 0 [6,8,9,10] (γ:=Unit) (fun _ R=>⟨[],R,0,(belongP s0.v.kind m/\planeOK p.v=true/\(twoP s0.v->planeOK u0.v=true))⟩) ?_ ?_
 ·exact gCO g0 5 [3] rfl<|cS (p21_belongs s0.kind m g0.flat) fun _ h0=>pu2<|SDn 20 (belongP s0.kind m) (fun d0=>jOR 22 rfl<|retT [I 1]<|⟨by rw [show cmpC s0.v m p.v u0.v own.v=1 from by unfold cmpC;exact if_neg (fun h=>d0 h.1)];rfl,(h0.drops [0,0,0,0])⟩) fun d0=>gOO h0 1 [402] rfl<|gY<|cS (p4_valid p ⟨(hp.pix.fl 4)⟩ h0.flat) fun _ e0=>pu3<|SBn 25 (planeOK p.v) (fun f0=>jOR 17 rfl<|retT [I 1]<|⟨by rw [show cmpC s0.v m p.v u0.v own.v=1 from by unfold cmpC;exact if_neg (fun h=>f0 h.2.1)];rfl,(e0.drops [0,0,0,0])⟩) fun f0=>pu2<|SB 27 two (fun i0=>jOI 9 rfl<|⟨(),alB,e0,⟨d0,f0,fun e=>absurd (ht.2 e) i0⟩⟩) fun i0=>gOO e0 1 [401] rfl<|gY<|cS (p4_valid u0 ⟨(hu0.pix.fl 4)⟩ e0.flat) fun _ n0=>jOC 5 rfl<|cBn (planeOK u0.v) (fun j0=>jCI 1 rfl<|⟨(),alB,n0,⟨d0,f0,fun _=>j0⟩⟩) fun j0=>jCR 7 rfl<|retT [I 1]<|⟨by rw [show cmpC s0.v m p.v u0.v own.v=1 from by unfold cmpC;exact if_neg (fun h=>j0 (h.2.2.1 (ht.1 i0)))];rfl,(n0.drops [0,0,0,0])⟩
 rintro _ ρ _ ⟨b0,hP⟩
 refine cutF b0 0 [6,8,9] (γ:=Unit) (fun _ R=>⟨[],R,0,cmpC s0.v m p.v u0.v own.v=(ofV s0.v (shpOf p.v) (shpOf u0.v)).2⟩) ?_ ?_
 ·exact gCO b0 6 [3] rfl<|SE 36 s0.kind 5 (fun c0=>jOI 22 rfl<|⟨(),alB,b0,(by unfold cmpC;rw [if_pos ⟨hP.1,hP.2.1,hP.2.2,fun e=>absurd e c0⟩])⟩) fun c0=>gOO b0 1 [400] rfl<|gY<|cS (p4_valid own ⟨(hown.pix.fl 4)⟩ b0.flat) fun _ a0=>pu2<|SBn 40 (planeOK own.v) (fun k0=>jOR 24 rfl<|retT [I 1]<|⟨by rw [show cmpC s0.v m p.v u0.v own.v=1 from by unfold cmpC;exact if_neg (fun h=>k0 (h.2.2.2 c0).1)];rfl,(a0.drops [0,0,0,0])⟩) fun k0=>gOO a0 7 [0,2] rfl<|SN 47 own.w p.w (fun e1=>jOR 17 rfl<|retT [I 1]<|⟨by rw [show cmpC s0.v m p.v u0.v own.v=1 from by unfold cmpC;exact if_neg (fun h=>by have h2:=h.2.2.2 c0;simp only [Plane.v] at h2;omega)];rfl,(a0.drops [0,0,0,0])⟩) fun e1=>gOC a0 9 [0,2] rfl<|cN own.h p.h (fun g1=>jCI 1 rfl<|⟨(),alB,a0,(by unfold cmpC;rw [if_pos ⟨hP.1,hP.2.1,hP.2.2,fun _=>⟨k0,by simp only [Plane.v];omega,by simp only [Plane.v];omega⟩⟩])⟩) fun g1=>jCR 7 rfl<|retT [I 1]<|⟨by rw [show cmpC s0.v m p.v u0.v own.v=1 from by unfold cmpC;exact if_neg (fun h=>by have h2:=h.2.2.2 c0;simp only [Plane.v] at h2;omega)];rfl,(a0.drops [0,0,0,0])⟩
 rintro _ ρ _ ⟨i1,hC⟩
 refine jCC 1 rfl<|drawG i1 [2,4,5,9,10] (fb 0 3 0 18<|fb 1 2 0 4<|fb 3 1 0 4<|fn) (pS [0,1,3]<| .fk 2 9 (.fk 4 9 (.fk 5 9 (pS [6,7,8]<| .ef 9<| .ef 10<|pS [11]<| .fin) (.ef 5<|pS [6,7,8]<| .ef 10<|pS [11]<| .fin)) (.ef 4<| .ef 5<|pS [6,7,8]<| .ef 10<|pS [11]<| .fin)) (.ef 2<| .ef 4<| .ef 5<|pS [6,7,8]<| .ef 10<|pS [11]<| .fin)) fun _ o0=>qG 0 18<|qG 18 4<|qG 22 4<|qF ?_ ?_
 rotate_left
 ·exact qO rfl<|sAlloc o0 zeroValue65 fun _ _ p0=>nZ p0 [4,3,2]<|qO rfl<|cS (p21_shape p ⟨(hp.pix.fl 5)⟩ p0.flat) fun _ q0=>nZ q0 [4,2]<|qO rfl<|cS (p21_shape u0 ⟨(hu0.pix.fl 5)⟩ q0.flat) fun _ r0=>nZ r0 [4]<|qO rfl<|cS (p15_of s0 (⟨p.w,p.h,p.max_⟩:Shape) (⟨u0.w,u0.h,u0.max_⟩:Shape) (hs0.of_mem (mF 5)) r0.flat) fun _ j1=>nA<|qV 1<|qV 1<|qV 1<|qO rfl<|sTk j1 0 rfl [I ((ofV s0.v (⟨p.w,p.h,p.max_⟩:Shape) (⟨u0.w,u0.h,u0.max_⟩:Shape)).1.w),I ((ofV s0.v (⟨p.w,p.h,p.max_⟩:Shape) (⟨u0.w,u0.h,u0.max_⟩:Shape)).1.h),I ((ofV s0.v (⟨p.w,p.h,p.max_⟩:Shape) (⟨u0.w,u0.h,u0.max_⟩:Shape)).1.max_)] fun _ k1=>nA<|qV 1<|qN<|jXR 8 rfl<|retT [I ((ofV s0.v (⟨p.w,p.h,p.max_⟩:Shape) (⟨u0.w,u0.h,u0.max_⟩:Shape)).2)]<|⟨by rw [hC];rfl,(k1.drops [0,0,0,0,0])⟩
 refine qO rfl<|cS (p21_shape p ⟨(hp.pix.fl 4)⟩ o0.flat) fun _ l0=>nZ l0 [3,1]<|qF ?_ ?_
 rotate_left
 ·exact qO rfl<|sAlloc l0 zeroValue65 fun _ _ t0=>nZ t0 [4,2]<|qO rfl<|cS (p21_shape u0 ⟨(hu0.pix.fl 5)⟩ t0.flat) fun _ v0=>nZ v0 [4]<|qO rfl<|cS (p15_of s0 (⟨p.w,p.h,p.max_⟩:Shape) (⟨u0.w,u0.h,u0.max_⟩:Shape) (hs0.of_mem (mF 5)) v0.flat) fun _ m1=>nA<|qV 1<|qV 1<|qV 1<|qO rfl<|sTk m1 0 rfl [I ((ofV s0.v (⟨p.w,p.h,p.max_⟩:Shape) (⟨u0.w,u0.h,u0.max_⟩:Shape)).1.w),I ((ofV s0.v (⟨p.w,p.h,p.max_⟩:Shape) (⟨u0.w,u0.h,u0.max_⟩:Shape)).1.h),I ((ofV s0.v (⟨p.w,p.h,p.max_⟩:Shape) (⟨u0.w,u0.h,u0.max_⟩:Shape)).1.max_)] fun _ n1=>nA<|qV 1<|qN<|jXR 8 rfl<|retT [I ((ofV s0.v (⟨p.w,p.h,p.max_⟩:Shape) (⟨u0.w,u0.h,u0.max_⟩:Shape)).2)]<|⟨by rw [hC];rfl,(n1.drops [0,0,0,0,0])⟩
 refine qO rfl<|cS (p21_shape u0 ⟨(hu0.pix.fl 4)⟩ l0.flat) fun _ m0=>nZ m0 [3]<|qF ?_ ?_
 ·exact qO rfl<|cS (p15_of s0 (⟨p.w,p.h,p.max_⟩:Shape) (⟨u0.w,u0.h,u0.max_⟩:Shape) (hs0.of_mem (mF 4)) m0.flat) fun _ q1=>nA<|qV 1<|qV 1<|qV 1<|qO rfl<|sAlloc q1 zeroValue65 fun _ _ r1=>nA<|qO rfl<|sTk r1 0 rfl [I ((ofV s0.v (⟨p.w,p.h,p.max_⟩:Shape) (⟨u0.w,u0.h,u0.max_⟩:Shape)).1.w),I ((ofV s0.v (⟨p.w,p.h,p.max_⟩:Shape) (⟨u0.w,u0.h,u0.max_⟩:Shape)).1.h),I ((ofV s0.v (⟨p.w,p.h,p.max_⟩:Shape) (⟨u0.w,u0.h,u0.max_⟩:Shape)).1.max_)] fun _ s1=>nA<|qV 1<|qN<|jXR 8 rfl<|retT [I ((ofV s0.v (⟨p.w,p.h,p.max_⟩:Shape) (⟨u0.w,u0.h,u0.max_⟩:Shape)).2)]<|⟨by rw [hC];rfl,(s1.drops [0,0,0,0,0])⟩
 exact qO rfl<|sAlloc m0 zeroValue65 fun _ _ w0=>nZ w0 [4]<|qO rfl<|cS (p15_of s0 (⟨p.w,p.h,p.max_⟩:Shape) (⟨u0.w,u0.h,u0.max_⟩:Shape) (hs0.of_mem (mF 5)) w0.flat) fun _ u1=>nA<|qV 1<|qV 1<|qV 1<|qO rfl<|sTk u1 0 rfl [I ((ofV s0.v (⟨p.w,p.h,p.max_⟩:Shape) (⟨u0.w,u0.h,u0.max_⟩:Shape)).1.w),I ((ofV s0.v (⟨p.w,p.h,p.max_⟩:Shape) (⟨u0.w,u0.h,u0.max_⟩:Shape)).1.h),I ((ofV s0.v (⟨p.w,p.h,p.max_⟩:Shape) (⟨u0.w,u0.h,u0.max_⟩:Shape)).1.max_)] fun _ v1=>nA<|qV 1<|qN<|jXR 8 rfl<|retT [I ((ofV s0.v (⟨p.w,p.h,p.max_⟩:Shape) (⟨u0.w,u0.h,u0.max_⟩:Shape)).2)]<|⟨by rw [hC];rfl,(v1.drops [0,0,0,0,0])⟩
theorem p21_merged (al:Option Addr) (nl kl:Nat) (l:List IL) (bins:Int) (hl:RdT encIL 1 [H] al nl kl l) (dl:∀z∈l,IL.Ok [H] z) (hS:Sat W w (H::F)):
  Calls prog 50 #[.slice al nl kl,I bins] w fun e w'=>∃(az:Option Addr) (nz kz:Nat) (zs:List Int) (c:Int) (G:Chunk),e= .returned (.tuple #[.slice az nz kz,I c])/\RdT Go.E.encI 1 [G] az nz kz zs/\(zs,c)=mrgB (l.map (fun z=>z.l.l)) bins/\Sat W w' (G::H::F):=by
 have q0:=hl.ll
 refine callsK 21 func50 rfl<|jCO 9 rfl<|cZ (p12_merge al nl kl l (hl.fl 0) (fun z hz=>(dl z hz).of_mem (mF 0)) hS.flat) ?_
 rintro _ _ ⟨g0,d0,h0,c0,a0,_,rfl,e0,b0,i0⟩
 have f0:=i0.unflat1
 have o0:=e0.ll
 exact jOC 14 rfl<|CN a0 0 (fun j0=>jCR 9 rfl<|retT [nS,I a0]<|(by have l0:(mrgT (l.map (fun z=>z.l.l))).1=c0:=(congrArg Prod.fst b0).symm;have p0:(mrgT (l.map (fun z=>z.l.l))).2=a0:=(congrArg Prod.snd b0).symm;have k0:=(f0.dropAt 0 rfl);exact ⟨none,0,0,[],a0,_,rfl,rN,(by unfold mrgB;rw [if_neg om,p0]),(Sat.nilc k0)⟩)) fun j0=>jCC 11 rfl<|cN (d0:Int) bins (fun m0=>jCR 10 rfl<|retT [.slice g0 d0 h0,I 0]<|(by have l0:(mrgT (l.map (fun z=>z.l.l))).1=c0:=(congrArg Prod.fst b0).symm;have p0:(mrgT (l.map (fun z=>z.l.l))).2=a0:=(congrArg Prod.snd b0).symm;exact ⟨g0,d0,h0,c0,0,_,rfl,e0,(by unfold mrgB;rw [if_pos om,if_pos (by rw [l0];omega),l0]),f0⟩)) fun m0=>jCR 8 rfl<|retT [nS,I 8]<|(by have l0:(mrgT (l.map (fun z=>z.l.l))).1=c0:=(congrArg Prod.fst b0).symm;have p0:(mrgT (l.map (fun z=>z.l.l))).2=a0:=(congrArg Prod.snd b0).symm;have n0:=(f0.dropAt 0 rfl);exact ⟨none,0,0,[],8,_,rfl,rN,(by unfold mrgB;rw [if_pos om,if_neg (by rw [l0];omega)]),(Sat.nilc n0)⟩)
theorem p21_sums (r:Rct) (p:Plane) (own:Plane) (hp:Plane.Ok [H] p) (hown:Plane.Ok [H] own) (hpo:planeOK p.v=true) (how:planeOK own.v=true) (hsw:own.w=p.w/\own.h=p.h) (hS:Sat W w (H::F)):
  Calls prog 92 #[.agg (encRct r).toArray, .agg (encPlane p).toArray, .agg (encPlane own).toArray] w fun e w'=>∃(q:Plane) (c:Int) (G:Chunk),e= .returned (.tuple #[.agg (encPlane q).toArray,I c])/\q.Ok [G]/\(q.v,c)=sumT p.v own.v r/\Sat W w' (G::H::F):=by
 have O0:=hp.pix.ll
 have J0:=hown.pix.le;have B0:=hown.pix.len
 refine callsK 108 func92 rfl<|jCO 2 rfl<|sBx hS (encRct r) fun _ _ b2=>sBx b2 (encPlane p) fun _ _ c2=>sBx c2 (encPlane own) fun _ _ d2=>sAlloc d2 zeroValue38 fun _ _ c1=>jOC 3 rfl<|cutF c1 0 [3,4,5,6] (γ:=Unit) (fun _ R=>⟨[],R,0,rIn r own.w own.h⟩) ?_ ?_
 ·refine jCC 1 rfl<|drawG c1 [1,3,4,5,6] (fb 0 3 0 4<|fn) (pS [0]<| .ef 1<|pS [2]<| .fk 3 4 (.ef 4<| .ef 5<| .ef 6<|pS [7,8]<| .fin) (.fk 3 5 (.ef 5<| .ef 6<|pS [7,8]<| .fin) (.ef 3<| .ef 6<|pS [7,8]<| .fin))) fun _ e2=>qG 0 4<|qO rfl<|cS (p2_empty r e2.flat) fun _ b0=>nA<|qV 1<|qF ?_ ?_
  ·exact bD (r.x0=0/\r.y0=0/\r.x1=0/\r.y1=0) (fun k0=>qFix 14 _ true (decide_eq_true k0)<|qO rfl<|pu1<|nA<|qO rfl<|pu1<|nA<|qO rfl<|pu1<|nA<|qO rfl<|pu1<|nA<|qV 1<|qV 1<|qN<|jXO 5 rfl<|sTk b0 0 rfl [I 0,I 0,I 0,nS] fun _ d1=>jOR 5 rfl<|retD d1 0 [I 0,I 0,I 0,nS] (I 8)<|(by have A0:=(plane_sz hpo).1;unfold sizeP at A0;simp only [Plane.v] at A0;have f2:=(d1.drops [0,0,0,0]);exact ⟨zP,8,_,rfl,⟨rN⟩,(by unfold sumT;rw [if_neg (fun h=>by have h2:=(ins_in om om).2 (show rIn r own.w own.h by rw [hsw.1,hsw.2];exact h);exact h2.1 k0)];rfl),(Sat.nilc f2)⟩)) fun k0=>qFix 14 _ false (decide_eq_false k0)<|qO rfl<|gY<|lB b0 3 0 4<|nA<|qO rfl<|gY<|lB b0 1 0 4<|nA<|qO rfl<|gY<|cS (p21_whole own ⟨(hown.pix.fl 4)⟩ b0.flat) fun _ i2=>nA<|qO rfl<|gY<|cS (p2_inside r (⟨0,0,own.w,own.h⟩:Rct) i2.flat) fun _ e1=>nA<|qV 1<|qV 1<|qN<|jXC 1 rfl<|cDn (insP r (⟨0,0,own.w,own.h⟩:Rct)) (fun o0=>jCI 1 rfl<|⟨(),alB,e1,(by have A0:=(plane_sz hpo).1;unfold sizeP at A0;simp only [Plane.v] at A0;exact (ins_in om om).1 ⟨k0,o0⟩)⟩) fun o0=>jCO 3 rfl<|sTk e1 0 rfl [I 0,I 0,I 0,nS] fun _ f1=>jOR 5 rfl<|retD f1 0 [I 0,I 0,I 0,nS] (I 8)<|(by have A0:=(plane_sz hpo).1;unfold sizeP at A0;simp only [Plane.v] at A0;have j2:=(f1.drops [0,0,0,0]);exact ⟨zP,8,_,rfl,⟨rN⟩,(by unfold sumT;rw [if_neg (fun h=>by have h2:=(ins_in om om).2 (show rIn r own.w own.h by rw [hsw.1,hsw.2];exact h);exact o0 h2.2)];rfl),(Sat.nilc j2)⟩)
  by_cases i0:r.x0=0/\r.y0=0/\r.x1=0/\r.y1=0
  ·refine qFix 14 _ true (decide_eq_true i0)<|qO rfl<|pu1<|nA<|qF ?_ ?_
   rotate_left
   ·exact qO rfl<|pu1<|nA<|qO rfl<|pu1<|nA<|qO rfl<|pu1<|nA<|qV 1<|qV 1<|qN<|jXO 5 rfl<|sTk b0 0 rfl [I 0,I 0,I 0,nS] fun _ g1=>jOR 5 rfl<|retD g1 0 [I 0,I 0,I 0,nS] (I 8)<|(by have A0:=(plane_sz hpo).1;unfold sizeP at A0;simp only [Plane.v] at A0;have l2:=(g1.drops [0,0,0,0]);exact ⟨zP,8,_,rfl,⟨rN⟩,(by unfold sumT;rw [if_neg (fun h=>by have h2:=(ins_in om om).2 (show rIn r own.w own.h by rw [hsw.1,hsw.2];exact h);exact h2.1 i0)];rfl),(Sat.nilc l2)⟩)
   exact qO rfl<|pu1<|nA<|qO rfl<|pu1<|nA<|qO rfl<|pu1<|nA<|qV 1<|qV 1<|qN<|jXO 5 rfl<|sTk b0 0 rfl [I 0,I 0,I 0,nS] fun _ i1=>jOR 5 rfl<|retD i1 0 [I 0,I 0,I 0,nS] (I 8)<|(by have A0:=(plane_sz hpo).1;unfold sizeP at A0;simp only [Plane.v] at A0;have n2:=(i1.drops [0,0,0,0]);exact ⟨zP,8,_,rfl,⟨rN⟩,(by unfold sumT;rw [if_neg (fun h=>by have h2:=(ins_in om om).2 (show rIn r own.w own.h by rw [hsw.1,hsw.2];exact h);exact h2.1 i0)];rfl),(Sat.nilc n2)⟩)
  refine qFix 14 _ false (decide_eq_false i0)<|qO rfl<|gY<|lB b0 1 0 4<|nA<|qF ?_ ?_
  rotate_left
  ·exact qO rfl<|gY<|cS (p21_whole own ⟨(hown.pix.fl 4)⟩ b0.flat) fun _ j1=>nA<|qO rfl<|gY<|lB j1 3 0 4<|nA<|qO rfl<|gY<|cS (p2_inside r (⟨0,0,own.w,own.h⟩:Rct) j1.flat) fun _ k1=>nA<|qV 1<|qV 1<|qN<|jXC 1 rfl<|cDn (insP r (⟨0,0,own.w,own.h⟩:Rct)) (fun p0=>jCI 1 rfl<|⟨(),alB,k1,(by have A0:=(plane_sz hpo).1;unfold sizeP at A0;simp only [Plane.v] at A0;exact (ins_in om om).1 ⟨i0,p0⟩)⟩) fun p0=>jCO 3 rfl<|sTk k1 0 rfl [I 0,I 0,I 0,nS] fun _ l1=>jOR 5 rfl<|retD l1 0 [I 0,I 0,I 0,nS] (I 8)<|(by have A0:=(plane_sz hpo).1;unfold sizeP at A0;simp only [Plane.v] at A0;have q2:=(l1.drops [0,0,0,0]);exact ⟨zP,8,_,rfl,⟨rN⟩,(by unfold sumT;rw [if_neg (fun h=>by have h2:=(ins_in om om).2 (show rIn r own.w own.h by rw [hsw.1,hsw.2];exact h);exact p0 h2.2)];rfl),(Sat.nilc q2)⟩)
  exact qO rfl<|gY<|lB b0 3 0 4<|nA<|qO rfl<|gY<|cS (p21_whole own ⟨(hown.pix.fl 4)⟩ b0.flat) fun _ s2=>nA<|qO rfl<|gY<|cS (p2_inside r (⟨0,0,own.w,own.h⟩:Rct) s2.flat) fun _ m1=>nA<|qV 1<|qV 1<|qN<|jXC 1 rfl<|cDn (insP r (⟨0,0,own.w,own.h⟩:Rct)) (fun q0=>jCI 1 rfl<|⟨(),alB,m1,(by have A0:=(plane_sz hpo).1;unfold sizeP at A0;simp only [Plane.v] at A0;exact (ins_in om om).1 ⟨i0,q0⟩)⟩) fun q0=>jCO 3 rfl<|sTk m1 0 rfl [I 0,I 0,I 0,nS] fun _ n1=>jOR 5 rfl<|retD n1 0 [I 0,I 0,I 0,nS] (I 8)<|(by have A0:=(plane_sz hpo).1;unfold sizeP at A0;simp only [Plane.v] at A0;have t2:=(n1.drops [0,0,0,0]);exact ⟨zP,8,_,rfl,⟨rN⟩,(by unfold sumT;rw [if_neg (fun h=>by have h2:=(ins_in om om).2 (show rIn r own.w own.h by rw [hsw.1,hsw.2];exact h);exact q0 h2.2)];rfl),(Sat.nilc t2)⟩)
 rintro _ ρ _ ⟨o1,T0⟩
 refine jCC 1 rfl ?_
 have A0:=(plane_sz hpo).1;unfold sizeP at A0;simp only [Plane.v] at A0;have L0:rIn r p.w p.h:=by rw [<-hsw.1,<-hsw.2];exact T0
 have S0:=L0;unfold rIn at S0
 obtain ⟨Wn,hW⟩:∃k:Nat,r.x1-r.x0=(k:Int):=⟨_,(Int.toNat_of_nonneg om).symm⟩;obtain ⟨Hn,hH⟩:∃k:Nat,r.y1-r.y0=(k:Int):=⟨_,(Int.toNat_of_nonneg om).symm⟩
 have X0:1<=Wn/\Wn<=128/\1<=Hn/\Hn<=128:=om;have W0:Hn*Wn<=4096:=by have h1:=rIn_area L0 (by first|omega|assumption);rw [hW,hH] at h1;have h2:((Hn*Wn:Nat):Int)=(Wn:Int)*(Hn:Int):=(by push_cast;rw [Int.mul_comm]);omega
 have Y0:(r.x1-r.x0)*(r.y1-r.y0)=((Hn*Wn:Nat):Int):=by rw [hW,hH];push_cast;rw [Int.mul_comm]
 have P0:own.v.pix.length=own.pix.n:=B0;have V0:=(plane_sz how).2.1;simp only [Plane.v] at V0
 refine gCO o1 5 [3,3] rfl<|sSub r.y1 r.y0<|sMake (kl:= .i64) (kc:= .i64) (enc:=Go.E.encI) (sz:=1) (nb:=8) o1 0 ((r.y1-r.y0)).toNat (r.y1-r.y0) (om:(r.y1-r.y0)=((((r.y1-r.y0)).toNat:Nat):Int)) underlying22 (i:=Tryz.t3) kr fR fun r0 v2 _ s0 q1=>gOO q1 9 [4,4] rfl<|sSub r.x1 r.x0<|sMake (kl:= .i64) (kc:= .i64) (enc:=Go.E.encI) (sz:=1) (nb:=8) q1 0 ((r.x1-r.x0)).toNat (r.x1-r.x0) (om:(r.x1-r.x0)=((((r.x1-r.x0)).toNat:Nat):Int)) underlying22 (i:=Tryz.t3) kr fR fun l0 _ _ m0 c0=>gOC c0 16 [5] rfl<|cD (r.x0>0) (fun t0=>?_) (fun t0=>?_)
 rotate_left
 ·refine gCC c0 10 [5] rfl<|CD (r.y0>0) (fun w2=>gCO c0 9 [5] rfl<|sFix 81 _ false (decide_eq_false t0)<|gOO c0 16 [404,405] rfl<|cZ (p13_tile p r (At r0 0) (((r.y1-r.y0)).toNat) (((r.y1-r.y0)).toNat) (List.replicate ((r.y1-r.y0)).toNat 0) (At l0 0) (((r.x1-r.x0)).toNat) (((r.x1-r.x0)).toNat) (List.replicate ((r.x1-r.x0)).toNat 0) 0 ⟨(hp.pix.fl 6)⟩ (RdT.flat (s0.rdAt 1 (by rfl))) (RdT.flat (m0.rdAt 0 (by rfl))) c0.flat)<|(by rintro _ _ ⟨d0,r1,_,rfl,u0,x2,y2⟩;have z2:=y2.unflat1;have I0:=u0.pix.ll;exact pu2<|sTk z2 3 rfl (encPlane d0) fun _ s1=>jOR 4 rfl<|retD s1 3 (encPlane d0) (I r1)<|(by have hL:(List.replicate ((r.y1-r.y0)).toNat 0)=leftV own.v r:=left_no om;have hT:(List.replicate ((r.x1-r.x0)).toNat 0)=topV own.v r:=top_no om;have hK:0=atV own.v (r.x0-1) (r.y0-1):=(at_no om).symm;exact ⟨d0,r1,_,rfl,u0,(by unfold sumT;rw [if_pos (show rIn r p.v.w p.v.h from L0),<-hL,<-hT,<-hK];exact x2),(s1.drops [1,1,1,1,1,1])⟩))) fun w2=>?_
  have hix:=pl_ix how (x:=r.x1-1) (y:=r.y0-1) (by simp only [Plane.v];omega) (by simp only [Plane.v];omega);rw [P0] at hix;simp only [Plane.v] at hix
  refine gCO c0 6 [3,5] rfl<|sSub r.y0 1<|gOO c0 2 [3] rfl<|sMul (r.y0-1) own.w<|gOO c0 2 [5] rfl<|sAdd ((r.y0-1)*own.w) r.x0<|sSl (some (((r.y0-1)*own.w)+r.x0)) none (((((r.y0-1)*own.w)+r.x0)).toNat) own.pix.n runUnderlying22 sizeOf3 ⟨om,om⟩ rfl om om ?_ (a:=own.pix.a) (len:=own.pix.n) (cap:=own.pix.k)
  refine sCopyR (N:=_) (d:=((r.x1-r.x0)).toNat) (cap':=((r.x1-r.x0)).toNat) c0 m0 ((hown.pix.part (lo:=((((r.y0-1)*own.w)+r.x0)).toNat) (hi:=own.pix.n) om om).up 6 rfl) 0 0 (((r.x1-r.x0)).toNat) om (by first|exact Nat.min_eq_right om|exact Nat.min_eq_left om) (partAddr_zero (fun q h=>⟨_,_,(Option.some.inj h).symm⟩)).symm runUnderlying22 sizeOf3 (fun z v hv=>by simp only [Go.E.encI,List.mem_singleton] at hv;subst hv;rfl) fun _ _ c3 v0=>gOO v0 9 [5] rfl<|sFix 81 _ false (decide_eq_false t0)<|gOO v0 16 [404,405] rfl<|cZ (p13_tile p r (At r0 0) (((r.y1-r.y0)).toNat) (((r.y1-r.y0)).toNat) (List.replicate ((r.y1-r.y0)).toNat 0) (At l0 0) (((r.x1-r.x0)).toNat) (((r.x1-r.x0)).toNat) ((List.replicate ((r.x1-r.x0)).toNat 0).take 0++((own.pix.l.drop (((((r.y0-1)*own.w)+r.x0)).toNat)).take (own.pix.n-(((((r.y0-1)*own.w)+r.x0)).toNat))).take (((r.x1-r.x0)).toNat)++(List.replicate ((r.x1-r.x0)).toNat 0).drop (0+(((r.x1-r.x0)).toNat))) 0 ⟨(hp.pix.fl 6)⟩ (RdT.flat (s0.rdAt 1 (by rfl))) (RdT.flat (c3.rdAt 0 (by rfl))) v0.flat) ?_
  rintro _ _ ⟨e0,t1,_,rfl,w0,d3,e3⟩
  have f3:=e3.unflat1
  have H0:=w0.pix.ll
  exact pu2<|sTk f3 3 rfl (encPlane e0) fun _ u1=>jOR 4 rfl<|retD u1 3 (encPlane e0) (I t1)<|(by have hL:(List.replicate ((r.y1-r.y0)).toNat 0)=leftV own.v r:=left_no om;have hT:((List.replicate ((r.x1-r.x0)).toNat 0).take 0++((own.pix.l.drop (((((r.y0-1)*own.w)+r.x0)).toNat)).take (own.pix.n-(((((r.y0-1)*own.w)+r.x0)).toNat))).take (((r.x1-r.x0)).toNat)++(List.replicate ((r.x1-r.x0)).toNat 0).drop (0+(((r.x1-r.x0)).toNat)))=topV own.v r:=(by exact top_cp (own:=own.v) T0 (by simp only [Plane.v];omega) om om (by simp only [Plane.v];omega));have hK:0=atV own.v (r.x0-1) (r.y0-1):=(at_no om).symm;exact ⟨e0,t1,_,rfl,w0,(by unfold sumT;rw [if_pos (show rIn r p.v.w p.v.h from L0),<-hL,<-hT,<-hK];exact d3),(u1.drops [1,1,1,1,1,1])⟩)
 refine jCC 8 rfl<|loopF [3,4,5,6,9,10,38] (γ:=Nat×(List Int)×SO) (fun ⟨i,zs,K0,N0,M0,Q0⟩ R=>⟨[(39,I (i:Int)),(8, .slice K0 N0 M0)],Q0::R,(((r.y1-r.y0)).toNat)-i,i<=((r.y1-r.y0)).toNat/\(zs=mixN (fun j=>atV own.v (r.x0-1) (r.y0+(j:Int))) (fun _=>0) i Hn)/\OwnT Go.E.encI 3 1 K0 N0 M0 zs Q0⟩) (0,(List.replicate ((r.y1-r.y0)).toNat 0),(At r0 0),((r.y1-r.y0)).toNat,((r.y1-r.y0)).toNat,v2) ⟨(c0.pick 1 rfl),om,(by rw [show (r.y1-r.y0).toNat=Hn by omega,mix_0];exact tab_zero (fun _ _=>rfl)),s0⟩ ?_
 rintro ⟨i,zs,K0,N0,M0,Q0⟩ ρ _ ⟨a0,hi,hE,C0⟩
 have U0:=C0.ll
 have Z0:zs.length=Hn:=by rw [hE];exact mix_len _ _ _ _
 refine jCC 6 rfl<|cD ((i:Int)<((((r.y1-r.y0)).toNat:Nat):Int)) (fun i3=>jCC 10 rfl<|(by have hix:=pl_ix how (x:=r.x0-1) (y:=r.y0+(i:Int)) (by simp only [Plane.v];omega) (by simp only [Plane.v];omega);rw [P0] at hix;simp only [Plane.v] at hix;refine gCO a0 8 [3,5] rfl<|sAdd r.y0 (i:Int)<|gOO a0 2 [3] rfl<|sMul (r.y0+(i:Int)) own.w<|gOO a0 2 [5] rfl<|sAdd ((r.y0+(i:Int))*own.w) r.x0<|sSub (((r.y0+(i:Int))*own.w)+r.x0) 1<|sII hown.pix ((((r.y0+(i:Int))*own.w)+r.x0)-1) fun j0 _ _ j3 k3=>?_;have R0:atV own.v (r.x0-1) ((r.y0+(i:Int)))=j0:=(by rw [at_in (by simp only [Plane.v];omega) (by simp only [Plane.v];omega)];refine pixAt_eq ?_;rw [<-j3];simp only [Plane.v];congr 1;omega);exact sMp a0 (k3.up 6 rfl) 0 (I j0)<|sIO C0 (i:Int) i fun l3 _ _ m3 _ n3=>sStF a0 C0 n3 0 i 0 l3 j0 m3 (I j0) [I j0] sizeOf3 fun _ o3 p3 q3=>jOO 4 rfl<|sAdd (i:Int) 1<|jOI 2 rfl<|⟨(i+1,(zs.set i j0),K0,N0,M0,o3),od,alB,q3,om,(by rw [hE];exact mix_set R0.symm),p3⟩)) fun i3=>?_
 refine gCC a0 13 [5] rfl<|CD (r.y0>0) (fun z0=>gCO a0 9 [5] rfl<|(by have r3:(r.x0:Int)>0:=om;refine sFix 81 _ true (decide_eq_true r3)<|gOC a0 6 [5] rfl<|cF _ (decide_eq_false z0)<|gCO a0 9 [404,405] rfl<|cZ (p13_tile p r K0 N0 M0 zs (At l0 0) (((r.x1-r.x0)).toNat) (((r.x1-r.x0)).toNat) (List.replicate ((r.x1-r.x0)).toNat 0) 0 ⟨(hp.pix.fl 6)⟩ (RdT.flat (C0.rdAt 0 (by rfl))) (RdT.flat (m0.rdAt 1 (by rfl))) a0.flat) ?_;rintro _ _ ⟨f0,v1,_,rfl,a1,s3,u3⟩;have v3:=u3.unflat1;have G0:=a1.pix.ll;exact pu2<|sTk v3 3 rfl (encPlane f0) fun _ w1=>jOR 4 rfl<|retD w1 3 (encPlane f0) (I v1)<|(by have hL:zs=leftV own.v r:=(by rw [hE,show i=Hn by omega];exact left_mix om);have hT:(List.replicate ((r.x1-r.x0)).toNat 0)=topV own.v r:=top_no om;have hK:0=atV own.v (r.x0-1) (r.y0-1):=(at_no om).symm;exact ⟨f0,v1,_,rfl,a1,(by unfold sumT;rw [if_pos (show rIn r p.v.w p.v.h from L0),<-hL,<-hT,<-hK];exact s3),(w1.drops [1,1,1,1,1,1])⟩))) fun z0=>?_
 have hix:=pl_ix how (x:=r.x1-1) (y:=r.y0-1) (by simp only [Plane.v];omega) (by simp only [Plane.v];omega);rw [P0] at hix;simp only [Plane.v] at hix
 refine gCO a0 6 [3,5] rfl<|sSub r.y0 1<|gOO a0 2 [3] rfl<|sMul (r.y0-1) own.w<|gOO a0 2 [5] rfl<|sAdd ((r.y0-1)*own.w) r.x0<|sSl (some (((r.y0-1)*own.w)+r.x0)) none (((((r.y0-1)*own.w)+r.x0)).toNat) own.pix.n runUnderlying22 sizeOf3 ⟨om,om⟩ rfl om om ?_ (a:=own.pix.a) (len:=own.pix.n) (cap:=own.pix.k)
 refine sCopyR (N:=_) (d:=((r.x1-r.x0)).toNat) (cap':=((r.x1-r.x0)).toNat) a0 m0 ((hown.pix.part (lo:=((((r.y0-1)*own.w)+r.x0)).toNat) (hi:=own.pix.n) om om).up 6 rfl) 1 0 (((r.x1-r.x0)).toNat) om (by first|exact Nat.min_eq_right om|exact Nat.min_eq_left om) (partAddr_zero (fun q h=>⟨_,_,(Option.some.inj h).symm⟩)).symm runUnderlying22 sizeOf3 (fun z v hv=>by simp only [Go.E.encI,List.mem_singleton] at hv;subst hv;rfl) fun _ _ y3 h0=>gOO h0 9 [5] rfl ?_
 have z3:(r.x0:Int)>0:=om
 refine sFix 81 _ true (decide_eq_true z3)<|gOC h0 6 [5] rfl<|cT _ (decide_eq_true z0) ?_
 have hix:=pl_ix how (x:=r.x0-1) (y:=r.y0-1) (by simp only [Plane.v];omega) (by simp only [Plane.v];omega);rw [P0] at hix;simp only [Plane.v] at hix
 refine gCO h0 5 [3,5] rfl<|sSub r.y0 1<|gOO h0 2 [3] rfl<|sMul (r.y0-1) own.w<|gOO h0 2 [5] rfl<|sAdd ((r.y0-1)*own.w) r.x0<|sSub (((r.y0-1)*own.w)+r.x0) 1<|sII hown.pix ((((r.y0-1)*own.w)+r.x0)-1) fun n0 _ _ a4 b4=>?_
 have R0:atV own.v (r.x0-1) (r.y0-1)=n0:=(by rw [at_in (by simp only [Plane.v];omega) (by simp only [Plane.v];omega)];refine pixAt_eq ?_;rw [<-a4];simp only [Plane.v];congr 1;omega)
 refine sMp h0 (b4.up 6 rfl) 0 (I n0)<|gOO h0 10 [404,405] rfl<|cZ (p13_tile p r K0 N0 M0 zs (At l0 0) (((r.x1-r.x0)).toNat) (((r.x1-r.x0)).toNat) ((List.replicate ((r.x1-r.x0)).toNat 0).take 0++((own.pix.l.drop (((((r.y0-1)*own.w)+r.x0)).toNat)).take (own.pix.n-(((((r.y0-1)*own.w)+r.x0)).toNat))).take (((r.x1-r.x0)).toNat)++(List.replicate ((r.x1-r.x0)).toNat 0).drop (0+(((r.x1-r.x0)).toNat))) n0 ⟨(hp.pix.fl 6)⟩ (RdT.flat (C0.rdAt 0 (by rfl))) (RdT.flat (y3.rdAt 1 (by rfl))) h0.flat) ?_
 rintro _ _ ⟨g0,z1,_,rfl,b1,c4,d4⟩
 have e4:=d4.unflat1
 have F0:=b1.pix.ll
 exact pu2<|sTk e4 3 rfl (encPlane g0) fun _ a2=>jOR 4 rfl<|retD a2 3 (encPlane g0) (I z1)<|(by have hL:zs=leftV own.v r:=(by rw [hE,show i=Hn by omega];exact left_mix om);have hT:((List.replicate ((r.x1-r.x0)).toNat 0).take 0++((own.pix.l.drop (((((r.y0-1)*own.w)+r.x0)).toNat)).take (own.pix.n-(((((r.y0-1)*own.w)+r.x0)).toNat))).take (((r.x1-r.x0)).toNat)++(List.replicate ((r.x1-r.x0)).toNat 0).drop (0+(((r.x1-r.x0)).toNat)))=topV own.v r:=(by exact top_cp (own:=own.v) T0 (by simp only [Plane.v];omega) om om (by simp only [Plane.v];omega));have hK:n0=atV own.v (r.x0-1) (r.y0-1):=R0.symm;exact ⟨g0,z1,_,rfl,b1,(by unfold sumT;rw [if_pos (show rIn r p.v.w p.v.h from L0),<-hL,<-hT,<-hK];exact c4),(a2.drops [1,1,1,1,1,1])⟩)
theorem p21_pixels (s0:Stage) (r:Rct) (p:Plane) (u0:Plane) (own:Plane) (two:Bool) (hs0:Stage.Ok [H] s0) (hp:Plane.Ok [H] p) (hu0:Plane.Ok [H] u0) (hown:Plane.Ok [H] own) (htw:two=true↔twoP s0.v) (hkk:(1<=s0.kind/\s0.kind<=6)/\¬s0.kind=4) (hpo:planeOK p.v=true) (h5:s0.kind=5->planeOK own.v=true/\own.w=p.w/\own.h=p.h) (hS:Sat W w (H::F)):
  Calls prog 51 #[.agg (encStage s0).toArray, .agg (encRct r).toArray, .agg (encPlane p).toArray, .agg (encPlane u0).toArray, .agg (encPlane own).toArray, .bool two] w fun e w'=>∃(q:Plane) (c:Int) (G:Chunk),e= .returned (.tuple #[.agg (encPlane q).toArray,I c])/\q.Ok [G]/\(q.v,c)=tilT s0.v p.v u0.v own.v r/\Sat W w' (G::H::F):=by
 have A0:=hs0.weights.ll
 have N0:=hs0.row.ll
 have L0:=hs0.col.ll
 have Q0:=hs0.x.ll
 have R0:=hs0.y.ll
 have M0:=hs0.ops.ll
 have P0:=hp.pix.ll
 have O0:=hu0.pix.ll
 have K0:=hown.pix.ll
 refine callsK 95 func51 rfl<|jCO 2 rfl<|sBx hS (encStage s0) fun _ _ y0=>sBx y0 (encRct r) fun _ _ z0=>sBx z0 (encPlane p) fun _ _ a1=>sBx a1 (encPlane u0) fun _ _ b1=>sBx b1 (encPlane own) fun _ _ c1=>sAlloc c1 zeroValue38 fun _ _ a0=>gOC a0 17 [5] rfl<|cE s0.kind 1 (fun d1=>gCO a0 16 [403,205,5,5,5,5,5,404] rfl<|cZ (p9_tile p (⟨s0.edgePolicy,s0.edgeFill⟩:Edge) s0.kW s0.kH s0.weights.a s0.weights.n s0.weights.k s0.weights.l s0.shift s0.max_ r ⟨(hp.pix.fl 6)⟩ (hs0.weights.fl 6) a0.flat)<|(by rintro _ _ ⟨b0,l0,_,rfl,g0,e1,f1⟩;have g1:=f1.unflat1;have F0:=g0.pix.ll;exact pu2<|sTk g1 1 rfl (encPlane b0) fun _ m0=>jOR 6 rfl<|retD m0 1 (encPlane b0) (I l0)<|⟨b0,l0,_,rfl,g0,(by unfold tilT kerT;rw [if_neg (show ¬s0.v.kind=5 from sv),if_pos (show s0.v.kind=1 from sv)];exact e1),(m0.drops [1,1,1,1,1,1])⟩)) fun d1=>?_
 refine jCC 6 rfl<|cE s0.kind 2 (fun i1=>gCO a0 16 [403,205,5,5,5,5,5,404] rfl<|cZ (p10_tile p (⟨s0.edgePolicy,s0.edgeFill⟩:Edge) s0.row.a s0.row.n s0.row.k s0.row.l s0.col.a s0.col.n s0.col.k s0.col.l s0.shift s0.shift2 s0.max_ r ⟨(hp.pix.fl 6)⟩ (hs0.row.fl 6) (hs0.col.fl 6) a0.flat)<|(by rintro _ _ ⟨c0,n0,_,rfl,h0,j1,k1⟩;have l1:=k1.unflat1;have G0:=h0.pix.ll;exact pu2<|sTk l1 1 rfl (encPlane c0) fun _ o0=>jOR 6 rfl<|retD o0 1 (encPlane c0) (I n0)<|⟨c0,n0,_,rfl,h0,(by unfold tilT kerT;rw [if_neg (show ¬s0.v.kind=5 from sv),if_neg (show ¬s0.v.kind=1 from sv),if_pos (show s0.v.kind=2 from sv)];exact j1),(o0.drops [1,1,1,1,1,1])⟩)) fun i1=>?_
 refine jCC 6 rfl<|cE s0.kind 3 (fun n1=>gCO a0 16 [403,205,5,5,5,5,5,404] rfl<|cZ (p11_tile p (⟨s0.edgePolicy,s0.edgeFill⟩:Edge) s0.x.a s0.x.n s0.x.k s0.x.l s0.y.a s0.y.n s0.y.k s0.y.l s0.shift s0.shift2 s0.max_ r ⟨(hp.pix.fl 6)⟩ (hs0.x.fl 6) (fun z hz=>(hs0.xD z hz).of_mem (mF 6)) (hs0.y.fl 6) (fun z hz=>(hs0.yD z hz).of_mem (mF 6)) a0.flat)<|(by rintro _ _ ⟨d0,p0,_,rfl,i0,o1,q1⟩;have r1:=q1.unflat1;have H0:=i0.pix.ll;exact pu2<|sTk r1 1 rfl (encPlane d0) fun _ q0=>jOR 6 rfl<|retD q0 1 (encPlane d0) (I p0)<|⟨d0,p0,_,rfl,i0,(by unfold tilT kerT;rw [if_neg (show ¬s0.v.kind=5 from sv),if_neg (show ¬s0.v.kind=1 from sv),if_neg (show ¬s0.v.kind=2 from sv),if_pos (show s0.v.kind=3 from sv)];exact o1),(q0.drops [1,1,1,1,1,1])⟩)) fun n1=>jCC 6 rfl<|cE s0.kind 5 (fun t1=>jCC 1 rfl<|(by obtain ⟨T0,U0⟩:=h5 om;refine gCO a0 4 [404,403,401] rfl<|cZ (p21_sums r p own ⟨(hp.pix.fl 6)⟩ ⟨(hown.pix.fl 6)⟩ hpo T0 U0 a0.flat) ?_;rintro _ _ ⟨e0,r0,_,rfl,j0,u1,v1⟩;have w1:=v1.unflat1;have I0:=j0.pix.ll;exact pu2<|sTk w1 1 rfl (encPlane e0) fun _ t0=>jOR 6 rfl<|retD t0 1 (encPlane e0) (I r0)<|⟨e0,r0,_,rfl,j0,(by unfold tilT;rw [if_pos (show s0.v.kind=5 from sv)];exact u1),(t0.drops [1,1,1,1,1,1])⟩)) fun t1=>?_
 refine jCC 6 rfl<|CE s0.kind 6 (fun y1=>jCO 6 rfl<|sTk a0 0 rfl [I 0,I 0,I 0,nS] fun _ v0=>jOR 4 rfl<|retD v0 0 [I 0,I 0,I 0,nS] (I 1)<|(by have z1:=(v0.drops [0,0,0,0,0,0]);exact ⟨zP,1,_,rfl,⟨rN⟩,(by exfalso;omega),(Sat.nilc z1)⟩)) fun y1=>gCO a0 10 [403,402,5,5,404] rfl<|cZ (p14_tile p u0 two s0.ops.a s0.ops.n s0.ops.k s0.ops.l s0.max_ r ⟨(hp.pix.fl 6)⟩ ⟨(hu0.pix.fl 6)⟩ (hs0.ops.fl 6) a0.flat) ?_
 rintro _ _ ⟨f0,w0,_,rfl,k0,b2,c2⟩
 have d2:=c2.unflat1
 have J0:=k0.pix.ll
 refine pu2<|sTk d2 1 rfl (encPlane f0) fun _ x0=>jOR 6 rfl<|retD x0 1 (encPlane f0) (I w0) ?_
 have S0:two=decide (twoP s0.v):=by rw [Bool.eq_iff_iff,decide_eq_true_eq];exact htw
 exact ⟨f0,w0,_,rfl,k0,(by unfold tilT kerT;rw [if_neg (show ¬s0.v.kind=5 from sv),if_neg (show ¬s0.v.kind=1 from sv),if_neg (show ¬s0.v.kind=2 from sv),if_neg (show ¬s0.v.kind=3 from sv),<-S0];exact b2),(x0.drops [1,1,1,1,1,1])⟩
theorem p21_compute (s0:Stage) (t:Task) (p:Plane) (u0:Plane) (own:Plane) (al:Option Addr) (nl kl:Nat) (l:List IL) (hs0:Stage.Ok [H] s0) (ht:Task.Ok [H] t) (hp:Plane.Ok [H] p) (hu0:Plane.Ok [H] u0) (hown:Plane.Ok [H] own) (hl:RdT encIL 1 [H] al nl kl l) (dl:∀z∈l,IL.Ok [H] z) (hS:Sat W w (H::F)):
  Calls prog 14 #[.agg (encStage s0).toArray, .agg (encTask t).toArray, .agg (encPlane p).toArray, .agg (encPlane u0).toArray, .agg (encPlane own).toArray, .slice al nl kl] w fun e w'=>∃(az:Option Addr) (nz kz:Nat) (zs:List Int) (c:Int) (G:Chunk),e= .returned (.tuple #[.slice az nz kz,I c])/\RdT Go.E.encI 1 [G] az nz kz zs/\(zs,c)=cmpT s0.v t.part (⟨t.rectX0,t.rectY0,t.rectX1,t.rectY1⟩:Rct) p.v (if twoP s0.v then u0.v else zPl) own.v (l.map (fun z=>z.l.l))/\Sat W w' (G::H::F):=by
 have A0:=hs0.weights.ll
 have F0:=hs0.row.ll
 have D0:=hs0.col.ll
 have R0:=hs0.x.ll
 have S0:=hs0.y.ll
 have E0:=hs0.ops.ll
 have G0:=ht.deps.ll
 have L0:=hp.pix.ll
 have H0:=hu0.pix.ll
 have C0:=hown.pix.ll
 have W0:=hl.ll
 refine callsK 72 func14 rfl<|jCO 2 rfl<|sBx hS (encStage s0) fun _ _ x0=>sBx x0 (encTask t) fun _ _ y0=>sBx y0 (encPlane p) fun _ _ z0=>sBx z0 (encPlane u0) fun a1 _ b1=>sBx b1 (encPlane own) fun c1 _ j0=>gOO j0 7 [1804] rfl<|cZ (p15_sources s0 (hs0.of_mem (mF 5)) j0.flat) ?_
 rintro _ _ ⟨_,d0,_,d1,rfl,k0,e1⟩
 have e0:=e1.unflat1
 have M0:=k0.ll
 have q2:1<=(srcs s0.v).length/\(srcs s0.v).length<=2:=srcs_len _
 refine jOC 5 rfl<|cutF e0 3 [5,6,7,8,9,10,14] (γ:=Plane) (fun u9 R=>⟨[],d1::[(c1, .cells (encPlane own).toArray 38 (0,0))]::[(a1, .cells (encPlane u9).toArray 38 (0,0))]::R,0,u9.v=(if twoP s0.v then u0.v else zPl)/\Plane.Ok [H] u9⟩) ?_ ?_
 ·exact jCC 6 rfl<|cEn (d0:Int) 2 (fun f1=>jCI 1 rfl<|⟨u0,alB,e0,(if_pos (srcs_two.1 om)).symm,hu0⟩) fun f1=>jCO 2 rfl<|sTk e0 2 rfl [I 0,I 0,I 0,nS] fun _ g1=>jOI 1 rfl<|⟨zP,alB,g1,(if_neg (fun e=>by have:=srcs_two.2 e;omega)).symm,⟨rN⟩⟩
 rintro u9 ρ _ ⟨l0,P0,T0⟩
 refine jCC 2 rfl ?_
 have Y0:=T0.pix.ll;have U0:(((d0:Int):Int)==2)=true↔twoP s0.v:=by rw [<-srcs_two];simp only [beq_iff_eq];omega
 refine gCO l0 8 [1805,4,403,402,401] rfl<|cS (p21_check s0 t.part p u9 own (((d0:Int):Int)==2) (hs0.of_mem (mF 6)) ⟨(hp.pix.fl 6)⟩ ⟨(T0.pix.fl 6)⟩ ⟨(hown.pix.fl 6)⟩ U0 l0.flat) fun _ a0=>jOC 9 rfl<|CN (cmpC s0.v t.part p.v u9.v own.v) 0 (fun h1=>jCR 9 rfl<|retT [nS,I (cmpC s0.v t.part p.v u9.v own.v)]<|(by have i1:=(a0.drops [0,0,0,0,0,0]);exact ⟨none,0,0,[],(cmpC s0.v t.part p.v u9.v own.v),_,rfl,rN,(by rw [<-P0];exact (cmp_n rfl om).symm),(Sat.nilc i1)⟩)) fun h1=>jCC 4 rfl ?_
 have I0:cmpC s0.v t.part p.v u9.v own.v=0:=om;have Q0:=cmpC_k I0
 refine gCC a0 12 [4] rfl<|cE t.part 1 (fun k1=>gCO a0 7 [403,5,404] rfl<|cZ (p12_partial p s0.bins (⟨t.rectX0,t.rectY0,t.rectX1,t.rectY1⟩:Rct) ⟨(hp.pix.fl 6)⟩ a0.flat)<|(by rintro _ _ ⟨m0,n0,o0,l1,p0,_,rfl,f0,m1,n1⟩;have o1:=n1.unflat1;have N0:=f0.ll;exact jOR 9 rfl<|retT [.slice m0 n0 o0,I p0]<|⟨m0,n0,o0,l1,p0,_,rfl,f0,(by rw [<-P0,cmp_1 I0 om];exact m1),(o1.drops [1,1,1,1,1,1])⟩)) fun k1=>jCC 6 rfl<|cE t.part 2 (fun r1=>gCO a0 5 [5] rfl<|cZ (p21_merged al nl kl l s0.bins (hl.fl 6) (fun z hz=>(dl z hz).of_mem (mF 6)) a0.flat)<|(by rintro _ _ ⟨q0,r0,t0,s1,v0,_,rfl,g0,t1,u1⟩;have v1:=u1.unflat1;have O0:=g0.ll;exact jOR 9 rfl<|retT [.slice q0 r0 t0,I v0]<|⟨q0,r0,t0,s1,v0,_,rfl,g0,(by rw [<-P0,cmp_2 I0 om];exact t1),(v1.drops [1,1,1,1,1,1])⟩)) fun r1=>jCC 4 rfl ?_
 have V0:(1<=s0.kind/\s0.kind<=6)/\¬s0.kind=4:=(by have hf:=of_kind Q0.2.2.2.2;unfold fieldsP at hf;simp only [Stage.v] at hf;have hb:=Q0.1;unfold belongP at hb;simp only [Stage.v] at hb;omega)
 refine gCO a0 8 [1805,404,403,402,401] rfl<|cZ (p21_pixels s0 (⟨t.rectX0,t.rectY0,t.rectX1,t.rectY1⟩:Rct) p u9 own (((d0:Int):Int)==2) (hs0.of_mem (mF 6)) ⟨(hp.pix.fl 6)⟩ ⟨(T0.pix.fl 6)⟩ ⟨(hown.pix.fl 6)⟩ U0 V0 Q0.2.1 Q0.2.2.2.1 a0.flat) ?_
 rintro _ _ ⟨b0,c0,_,rfl,h0,w0,x1⟩
 have y1:=x1.unflat1
 have B0:=h0.pix.ll
 exact pu3<|sAlloc y1 zeroValue38 fun _ _ z1=>sTk z1 0 rfl (encPlane b0) fun _ i0=>jOC 10 rfl<|CN c0 0 (fun a2=>jCR 9 rfl<|retT [nS,I c0]<|(by have b2:=(i0.drops [0,0,0,0,0,0,0,0]);exact ⟨none,0,0,[],c0,_,rfl,rN,(by rw [<-P0,cmp_0 I0 om om,<-w0];exact (if_neg (show ¬c0=0 by omega)).symm),(Sat.nilc b2)⟩)) fun a2=>gCR i0 11 [0] rfl<|retT [.slice b0.pix.a b0.pix.n b0.pix.k,I 0]<|⟨b0.pix.a,b0.pix.n,b0.pix.k,b0.pix.l,0,_,rfl,h0.pix,(by rw [<-P0,cmp_0 I0 om om,<-w0];exact (if_pos (show c0=0 by omega)).symm),(i0.drops [0,1,1,1,1,1,1])⟩
end Go.Proofs.YtghcddbhllkbmaaGreat
