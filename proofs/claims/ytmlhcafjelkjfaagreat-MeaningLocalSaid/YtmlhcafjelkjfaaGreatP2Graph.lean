import Derived.Test.YtmlhcafjelkjfaaGreatP2Ab
import Derived.WalkKit
import Derived.Deep.Quiet
import Derived.KernelRfl
import Derived.Laws.BytesString
import Derived.Laws.Shifts
import Derived.Laws.IdiomStrings
import Derived.Test.YtmlhcafjelkjfaaGreatProg
import Derived.Test.YtmlhcafjelkjfaaGreatP2RefS
namespace Go.Proofs.YtmlhcafjelkjfaaGreat
open Go Go.E Go.Proofs.Tryz
set_option linter.all false
set_option maxRecDepth 100000
set_option maxHeartbeats 2000000
variable {W w:World} {H:Chunk} {F:List Chunk}
def srcs (s:StageV):List Int:=if twoP s then [s.a,s.b] else [s.a]
theorem srcs_len (s:StageV):1<=(srcs s).length/\(srcs s).length<=2:=by unfold srcs;split<;>simp
def inR (n:Int) (l:List Int):Bool:=l.all fun x=>decide (0<=x/\x<n)
def chkCode (j:JobV):Int:=
  if 1<=j.inputs.length/\1<=j.stages.length/\j.inputs.length+j.stages.length<=16/\1<=j.outputs.length/\j.outputs.length<=16 then (if 0<=j.priority/\j.priority<4 then
    (if j.stages.all (fun s=>inR (j.inputs.length+j.stages.length) (srcs s))=true then (if inR (j.inputs.length+j.stages.length) j.outputs=true then 0 else 6) else 6) else 2) else 5
theorem r15_sources (q:Stage) (hq:Stage.Ok [H] q) (hS:Sat W w (H::F)):
  Calls prog 99 #[.agg (encStage q).toArray] w fun e w'=>∃(az:Option Addr) (nz kz:Nat) (G:Chunk),e= .returned (.slice az nz kz)/\RdT Go.E.encI 1 [G] az nz kz (srcs q.v)/\Sat W w' (G::H::F):=by
 have hl_q_weights:=hq.weights.le;have hn_q_weights:=hq.weights.len
 have hl_q_row:=hq.row.le;have hn_q_row:=hq.row.len
 have hl_q_col:=hq.col.le;have hn_q_col:=hq.col.len
 have hl_q_x:=hq.x.le;have hn_q_x:=hq.x.len
 have hl_q_y:=hq.y.le;have hn_q_y:=hq.y.len
 have hl_q_ops:=hq.ops.le;have hn_q_ops:=hq.ops.len
 refine callsA 13 func99 rfl<|sR<|sBox hS (.agg (encStage q).toArray) (encStage q).toArray fun _ _ b0=>pu1<|zQ<|lA b0 0 0 18 (isAgg53 _) (sizeOf53 _)<|cR call47 (r15_two q (hq.of_mem (mem_flat1 1 (by rfl))) b0.flat) fun _ a0=>nT<|cD (q.kind=6/\¬q.b=-1) (fun e0=>?_) (fun e0=>?_)
 rotate_left
 ·refine kS<|pu1<|sL a0 0 1 (I q.a) (isAgg3 _)<|sBS a0 #[I q.a] runUnderlying22 sizeOf3 zeroValue3 fun c0 _ f0=>pu1<|zE<|retT [.slice (At c0 0) 1 1] ?_
  have g0:=(f0.dropAt 1 rfl)
  have hl:[q.a]=srcs q.v:=(by unfold srcs;rw [if_neg (by unfold twoP;simp only [Stage.v];omega)];rfl)
  have hrd:=(RdT.blk (cs:=[[(c0, .cells #[I q.a] 3 (0,0))]]) (enc:=Go.E.encI) (sz:=1) (xs:=[q.a]) fR 1 0 rfl rfl rfl om)
  rw [hl] at hrd
  exact ⟨_,_,_,_,rfl,hrd,g0⟩
 refine sR<|pu1<|sL a0 0 1 (I q.a) (isAgg3 _)<|pu1<|sL a0 0 2 (I q.b) (isAgg3 _)<|sBS a0 #[I q.a,I q.b] runUnderlying22 sizeOf3 zeroValue3 fun d0 _ h0=>pu1<|zR<|retT [.slice (At d0 0) 2 2] ?_
 have i0:=(h0.dropAt 1 rfl)
 have hl:[q.a,q.b]=srcs q.v:=(by unfold srcs;rw [if_pos (by unfold twoP;simp only [Stage.v];omega)];rfl)
 have hrd:=(RdT.blk (cs:=[[(d0, .cells #[I q.a,I q.b] 3 (0,0))]]) (enc:=Go.E.encI) (sz:=1) (xs:=[q.a,q.b]) fR 2 0 rfl rfl rfl om)
 rw [hl] at hrd
 exact ⟨_,_,_,_,rfl,hrd,i0⟩
theorem r17_has (ax:Option Addr) (nx kx:Nat) (x:List Int) (y:Int) (hx:RdT Go.E.encI 1 [H] ax nx kx x) (hS:Sat W w (H::F)):
  Ro prog 98 #[.slice ax nx kx,I y] (.bool (decide (y∈x))) W w (H::F):=by
 have hl_x:=hx.le;have hn_x:=hx.len
 refine callsA 18 func98 rfl<|sR<|pu1<|zQ<|pu1<|nT<|blockE<|loopA (γ:=Nat) (fun i=>[(0, .slice ax nx kx),(1,I y),(5,I (i:Int))]) (fun i w=>Sat W w (H::F)/\i<=nx/\(¬y∈x.take i)) (fun i=>nx-i) 0 ⟨hS,om,by simp⟩ ?_
 rintro i ρ _ ⟨a0,hi,hE⟩
 refine seqE<|sR<|pu4<|nT<|cD ((i:Int)<(nx:Int)) (fun d0=>?_) (fun d0=>?_)
 rotate_left
 ·refine exitE<|xB<|tN<|sR<|pu1<|zE<|retT [.bool false] ?_
  exact ⟨by rw [decide_eq_false (show ¬y∈x from by rw [List.take_of_length_le om] at hE;exact hE)];rfl,a0⟩
 refine kT<|seqE<|blockE<|sR<|pu2<|sIdx hx (i:Int) runUnderlying22 sizeOf3 fun b0 _ _ c0 e0=>?_
 rw [Int.toNat_natCast] at c0
 refine sLp a0 (e0.up 0 rfl) 0 (I b0) (isAgg3 _)<|pu2<|nT<|cE b0 y (fun f0=>?_) (fun f0=>?_)
 ·exact sR<|pu1<|zB<|tR<|tK<|retT [.bool true]<|⟨by rw [decide_eq_true (show y∈x from (by omega:b0=y)▸List.mem_of_getElem? c0)];rfl,a0⟩
 refine skipE<|bN<|tN<|rE<|pu1<|sAdd (i:Int) 1<|pu1<|nT ?_
 exact ⟨i+1,od,alA,a0,om,by rw [take_succ_at c0];simp only [List.mem_append,List.mem_singleton,not_or];exact ⟨hE,om⟩⟩
theorem r17_check (p:Job) (hp:Job.Ok [H] p) (hb:p.inputs.n<=1000000/\p.stages.n<=1000000/\p.outputs.n<=1000000) (hS:Sat W w (H::F)):
  Ro prog 97 #[.agg (encJob p).toArray] (I (chkCode p.v)) W w (H::F):=by
 have hl_p_inputs:=hp.inputs.le;have hn_p_inputs:=hp.inputs.len
 have hl_p_stages:=hp.stages.le;have hn_p_stages:=hp.stages.len
 have hl_p_outputs:=hp.outputs.le;have hn_p_outputs:=hp.outputs.len
 have hmi:(p.inputs.l.map Plane.v).length=p.inputs.n:=by simp [hn_p_inputs]
 have hms:(p.stages.l.map Stage.v).length=p.stages.n:=by simp [hn_p_stages]
 refine callsA 105 func97 rfl<|sR<|sBox hS (.agg (encJob p).toArray) (encJob p).toArray fun c0 _ a0=>pu1<|zS<|pu1<|sL a0 0 0 (.slice p.inputs.a p.inputs.n p.inputs.k) (isAgg25 _)<|pu2<|sL a0 0 1 (.slice p.stages.a p.stages.n p.stages.k) (isAgg26 _)<|pu1<|sAdd (p.inputs.n:Int) (p.stages.n:Int)<|pu1<|nT<|seqE<|blockE<|cutA (γ:=Unit) (fun _=>[(1,Pt c0 0),(3,I ((p.inputs.n:Int)+(p.stages.n:Int))),(15, .bool (decide (¬(1<=p.inputs.n/\1<=p.stages.n/\p.inputs.n+p.stages.n<=16/\1<=p.outputs.n/\p.outputs.n<=16))))]) (fun _ w=>Sat W w ([(c0, .cells (encJob p).toArray 28 (0,0))]::H::F)) ?_ ?_
 ·refine rE<|pu1<|sL a0 0 0 (.slice p.inputs.a p.inputs.n p.inputs.k) (isAgg25 _)<|pu3<|sE 20 (p.inputs.n:Int) 0 (fun q0=>?_) (fun q0=>?_)
  ·exact pu16<|pu6<|nT<|⟨(),⟨kr,kr,(Eq.trans (b:= .bool true) kr (congrArg Value.bool (decide_eq_true (p:=¬(1<=p.inputs.n/\1<=p.stages.n/\p.inputs.n+p.stages.n<=16/\1<=p.outputs.n/\p.outputs.n<=16)) om).symm)),trivial⟩,a0⟩
  refine pu1<|gY<|sL a0 0 1 (.slice p.stages.a p.stages.n p.stages.k) (isAgg26 _)<|pu4<|sE 26 (p.stages.n:Int) 0 (fun r0=>?_) (fun r0=>?_)
  ·exact pu16<|nT<|⟨(),⟨kr,kr,(Eq.trans (b:= .bool true) kr (congrArg Value.bool (decide_eq_true (p:=¬(1<=p.inputs.n/\1<=p.stages.n/\p.inputs.n+p.stages.n<=16/\1<=p.outputs.n/\p.outputs.n<=16)) om).symm)),trivial⟩,a0⟩
  refine pu4<|sD 30 (((p.inputs.n:Int)+(p.stages.n:Int))>16) (fun s0=>?_) (fun s0=>?_)
  ·exact pu12<|nT<|⟨(),⟨kr,kr,(Eq.trans (b:= .bool true) kr (congrArg Value.bool (decide_eq_true (p:=¬(1<=p.inputs.n/\1<=p.stages.n/\p.inputs.n+p.stages.n<=16/\1<=p.outputs.n/\p.outputs.n<=16)) om).symm)),trivial⟩,a0⟩
  refine pu1<|gY<|sL a0 0 2 (.slice p.outputs.a p.outputs.n p.outputs.k) (isAgg22 _)<|pu4<|sE 36 (p.outputs.n:Int) 0 (fun t0=>?_) (fun t0=>?_)
  ·exact pu6<|nT<|⟨(),⟨kr,kr,(Eq.trans (b:= .bool true) kr (congrArg Value.bool (decide_eq_true (p:=¬(1<=p.inputs.n/\1<=p.stages.n/\p.inputs.n+p.stages.n<=16/\1<=p.outputs.n/\p.outputs.n<=16)) om).symm)),trivial⟩,a0⟩
  exact pu1<|gY<|sL a0 0 2 (.slice p.outputs.a p.outputs.n p.outputs.k) (isAgg22 _)<|pu4<|nT<|⟨(),⟨kr,kr,(Eq.trans (b:= .bool (decide ((p.outputs.n:Int)>16))) kr (congrArg Value.bool bm)),trivial⟩,a0⟩
 rintro _ ρ _ e0
 refine cD (¬(1<=p.inputs.n/\1<=p.stages.n/\p.inputs.n+p.stages.n<=16/\1<=p.outputs.n/\p.outputs.n<=16)) (fun u0=>?_) (fun u0=>?_)
 ·refine sR<|pu1<|zB<|retT [I 5] ?_
  have v0:=(e0.dropAt 0 rfl)
  have hk:chkCode p.v=5:=by unfold chkCode;rw [if_neg (by simp only [Job.v];omega)]
  exact ⟨by rw [hk];rfl,v0⟩
 refine sR<|pu1<|sL e0 0 3 (I p.priority) (isAgg3 _)<|pu2<|sD 46 (p.priority<0) (fun w0=>?_) (fun w0=>?_)
 ·refine pu5<|zC<|pu1<|zB<|retT [I 2] ?_
  have x0:=(e0.dropAt 0 rfl)
  have hk:chkCode p.v=2:=by unfold chkCode;rw [if_pos (by simp only [Job.v];omega),if_neg (by simp only [Job.v];omega)]
  exact ⟨by rw [hk];rfl,x0⟩
 refine pu1<|gY<|sL e0 0 3 (I p.priority) (isAgg3 _)<|pu3<|nT<|cD (p.priority>=4) (fun y0=>?_) (fun y0=>?_)
 ·refine sR<|pu1<|zB<|retT [I 2] ?_
  have z0:=(e0.dropAt 0 rfl)
  have hk:chkCode p.v=2:=by unfold chkCode;rw [if_pos (by simp only [Job.v];omega),if_neg (by simp only [Job.v];omega)]
  exact ⟨by rw [hk];rfl,z0⟩
 refine skipE<|bN<|tN<|seqE<|sR<|pu1<|nT<|blockE<|loopA (γ:=Nat) (fun i=>[(1,Pt c0 0),(3,I ((p.inputs.n:Int)+(p.stages.n:Int))),(4,I (i:Int))]) (fun i w=>Sat W w ([(c0, .cells (encJob p).toArray 28 (0,0))]::H::F)/\i<=p.stages.n/\(((p.stages.l.map Stage.v).take i).all (fun s=>inR ((p.inputs.l.map Plane.v).length+(p.stages.l.map Stage.v).length:Int) (srcs s))=true)) (fun i=>p.stages.n-i) 0 ⟨e0,om,by rfl⟩ ?_
 rintro i ρ _ ⟨g0,hi,hE⟩
 refine seqE<|sR<|pu2<|sL g0 0 1 (.slice p.stages.a p.stages.n p.stages.k) (isAgg26 _)<|pu2<|nT<|cD ((i:Int)<(p.stages.n:Int)) (fun a1=>?_) (fun a1=>?_)
 rotate_left
 ·refine exitE<|xB<|tN<|seqE<|seqE ?_
  have hst:(p.stages.l.map Stage.v).all (fun s=>inR ((p.inputs.l.map Plane.v).length+(p.stages.l.map Stage.v).length:Int) (srcs s))=true:=all_of_take hE om
  refine rE<|pu1<|nT<|blockE<|loopA (γ:=Nat) (fun m=>[(1,Pt c0 0),(3,I ((p.inputs.n:Int)+(p.stages.n:Int))),(7,I (m:Int))]) (fun m w=>Sat W w ([(c0, .cells (encJob p).toArray 28 (0,0))]::H::F)/\m<=p.outputs.n/\(inR ((p.inputs.l.map Plane.v).length+(p.stages.l.map Stage.v).length:Int) (p.outputs.l.take m)=true)) (fun m=>p.outputs.n-m) 0 ⟨g0,om,by rfl⟩ ?_
  rintro m ρ _ ⟨b0,hm,hF⟩
  refine seqE<|sR<|pu2<|sL b0 0 2 (.slice p.outputs.a p.outputs.n p.outputs.k) (isAgg22 _)<|pu2<|nT<|cD ((m:Int)<(p.outputs.n:Int)) (fun b1=>?_) (fun b1=>?_)
  rotate_left
  ·refine exitE<|xB<|tN<|sR<|pu1<|zE<|retT [I 0] ?_
   have c1:=(b0.dropAt 0 rfl)
   have ho:=all_of_take hF om
   have hk:chkCode p.v=0:=by unfold chkCode;rw [if_pos (by simp only [Job.v];omega),if_pos (by simp only [Job.v];omega),if_pos (by exact hst),if_pos (by exact ho)]
   exact ⟨by rw [hk];rfl,c1⟩
  refine kT<|seqE<|blockE<|sR<|pu1<|sL b0 0 2 (.slice p.outputs.a p.outputs.n p.outputs.k) (isAgg22 _)<|pu1<|sIdx hp.outputs (m:Int) runUnderlying22 sizeOf3 fun h0 _ _ i0 d1=>?_
  rw [Int.toNat_natCast] at i0
  refine sLp b0 (d1.up 1 rfl) 0 (I h0) (isAgg3 _)<|pu2<|sD 96 (h0<0) (fun e1=>?_) (fun e1=>?_)
  ·refine pu8<|zC<|pu1<|zB<|tR<|tK<|retT [I 6] ?_
   have f1:=(b0.dropAt 0 rfl)
   have ho:=all_false_at (p:=fun x=>decide (0<=x/\x<((p.inputs.l.map Plane.v).length+(p.stages.l.map Stage.v).length:Int))) i0 (decide_eq_false om)
   have hk:chkCode p.v=6:=by unfold chkCode;rw [if_pos (by simp only [Job.v];omega),if_pos (by simp only [Job.v];omega),if_pos (by exact hst),if_neg (by exact fun h=>Bool.false_ne_true (ho.symm.trans h))]
   exact ⟨by rw [hk];rfl,f1⟩
  refine pu1<|gY<|sL b0 0 2 (.slice p.outputs.a p.outputs.n p.outputs.k) (isAgg22 _)<|pu1<|gY<|sIdx hp.outputs (m:Int) runUnderlying22 sizeOf3 fun g1 _ _ o0 h1=>?_
  rw [Int.toNat_natCast] at o0
  obtain rfl:h0=g1:=Option.some.inj (i0.symm.trans o0)
  refine gY<|sLp b0 (h1.up 1 rfl) 0 (I h0) (isAgg3 _)<|pu3<|nT<|cD (h0>=((p.inputs.n:Int)+(p.stages.n:Int))) (fun i1=>?_) (fun i1=>?_)
  rotate_left
  ·exact skipE<|bN<|tN<|rE<|pu1<|sAdd (m:Int) 1<|pu1<|nT<|⟨m+1,od,alA,b0,om,all_succ hF i0 (decide_eq_true om)⟩
  refine sR<|pu1<|zB<|tR<|tK<|retT [I 6] ?_
  have j1:=(b0.dropAt 0 rfl)
  have ho:=all_false_at (p:=fun x=>decide (0<=x/\x<((p.inputs.l.map Plane.v).length+(p.stages.l.map Stage.v).length:Int))) i0 (decide_eq_false om)
  have hk:chkCode p.v=6:=by unfold chkCode;rw [if_pos (by simp only [Job.v];omega),if_pos (by simp only [Job.v];omega),if_pos (by exact hst),if_neg (by exact fun h=>Bool.false_ne_true (ho.symm.trans h))]
  exact ⟨by rw [hk];rfl,j1⟩
 refine kT<|seqE<|blockE<|sR<|pu1<|sL g0 0 1 (.slice p.stages.a p.stages.n p.stages.k) (isAgg26 _)<|pu1<|sIdx hp.stages (i:Int) runUnderlying26 sizeOf53 fun d0 _ _ j0 k1=>?_
 rw [Int.toNat_natCast] at j0
 refine sLpA g0 (k1.up 1 rfl) 0 (encStage d0) (isAgg53 _) (sizeOf53 _)<|cX call99 (r15_sources d0 ((hp.stagesD d0 (List.mem_of_getElem? j0)).of_mem (mem_flat1 1 (by rfl))) g0.flat) ?_
 rintro _ _ ⟨l1,m0,m1,n1,rfl,n0,o1⟩
 have p1:=o1.unflat1
 have hn_az_27:=n0.len;have hl_az_27:=n0.le
 have k2:1<=(srcs d0.v).length/\(srcs d0.v).length<=2:=srcs_len _
 refine pu1<|zS<|pu1<|nT<|blockE<|loopA (γ:=Nat) (fun k=>[(1,Pt c0 0),(3,I ((p.inputs.n:Int)+(p.stages.n:Int))),(4,I (i:Int)),(5, .slice l1 m0 m1),(6,I (k:Int))]) (fun k w=>Sat W w (n1::[(c0, .cells (encJob p).toArray 28 (0,0))]::H::F)/\k<=m0/\(inR ((p.inputs.l.map Plane.v).length+(p.stages.l.map Stage.v).length:Int) ((srcs d0.v).take k)=true)) (fun k=>m0-k) 0 ⟨p1,om,by rfl⟩ ?_
 rintro k ρ _ ⟨f0,hk,hK⟩
 refine seqE<|sR<|pu4<|nT<|cD ((k:Int)<(m0:Int)) (fun q1=>?_) (fun q1=>?_)
 rotate_left
 ·exact exitE<|xB<|bN<|tN<|rE<|pu1<|sAdd (i:Int) 1<|pu1<|nT<|⟨i+1,od,alA,(f0.dropAt 0 rfl),om,all_succ hE (map_at (f:=Stage.v) j0) (show inR _ (srcs d0.v)=true from all_of_take hK om)⟩
 refine kT<|seqE<|blockE<|sR<|pu2<|sIdx n0 (k:Int) runUnderlying22 sizeOf3 fun k0 _ _ l0 s1=>?_
 rw [Int.toNat_natCast] at l0
 refine sLp f0 (s1.up 0 rfl) 0 (I k0) (isAgg3 _)<|pu2<|sD 75 (k0<0) (fun t1=>?_) (fun t1=>?_)
 ·refine pu7<|zC<|pu1<|zB<|tR<|bR<|tK<|tR<|tK<|retT [I 6] ?_
  have u1:=(f0.drops [0,0])
  have hs1:=all_false_at (p:=fun x=>decide (0<=x/\x<((p.inputs.l.map Plane.v).length+(p.stages.l.map Stage.v).length:Int))) l0 (decide_eq_false om)
  have hs2:=all_false_at (p:=fun s=>inR ((p.inputs.l.map Plane.v).length+(p.stages.l.map Stage.v).length:Int) (srcs s)) (map_at (f:=Stage.v) j0) hs1
  have hk:chkCode p.v=6:=by unfold chkCode;rw [if_pos (by simp only [Job.v];omega),if_pos (by simp only [Job.v];omega),if_neg (by exact fun h=>Bool.false_ne_true (hs2.symm.trans h))]
  exact ⟨by rw [hk];rfl,u1⟩
 refine pu2<|gY<|sIdx n0 (k:Int) runUnderlying22 sizeOf3 fun v1 _ _ p0 w1=>?_
 rw [Int.toNat_natCast] at p0
 obtain rfl:k0=v1:=Option.some.inj (l0.symm.trans p0)
 refine gY<|sLp f0 (w1.up 0 rfl) 0 (I k0) (isAgg3 _)<|pu3<|nT<|cD (k0>=((p.inputs.n:Int)+(p.stages.n:Int))) (fun x1=>?_) (fun x1=>?_)
 rotate_left
 ·exact skipE<|bN<|tN<|rE<|pu1<|sAdd (k:Int) 1<|pu1<|nT<|⟨k+1,od,alA,f0,om,all_succ hK l0 (decide_eq_true om)⟩
 refine sR<|pu1<|zB<|tR<|bR<|tK<|tR<|tK<|retT [I 6] ?_
 have y1:=(f0.drops [0,0])
 have hs1:=all_false_at (p:=fun x=>decide (0<=x/\x<((p.inputs.l.map Plane.v).length+(p.stages.l.map Stage.v).length:Int))) l0 (decide_eq_false om)
 have hs2:=all_false_at (p:=fun s=>inR ((p.inputs.l.map Plane.v).length+(p.stages.l.map Stage.v).length:Int) (srcs s)) (map_at (f:=Stage.v) j0) hs1
 have hk:chkCode p.v=6:=by unfold chkCode;rw [if_pos (by simp only [Job.v];omega),if_pos (by simp only [Job.v];omega),if_neg (by exact fun h=>Bool.false_ne_true (hs2.symm.trans h))]
 exact ⟨by rw [hk];rfl,y1⟩
def ordOK (ni:Int) (out:List Int) (s:StageV):Bool:=(srcs s).all fun x=>decide (x<ni\/x∈out)
def ordPick (ni:Int) (out:List Int):List StageV->Int->Int
  |[],_=>-1
  |s::l,i=>if (decide (¬(ni+i)∈out)&&ordOK ni out s)=true then ni+i else ordPick ni out l (i+1)
def ordGo (ni:Int) (ss:List StageV):Nat->List Int->Option (List Int)
  |0,out=>some out
  |k+1,out=>if ordPick ni out ss 0<0 then none else ordGo ni ss k (out++[ordPick ni out ss 0])
def ordV (j:JobV):List Int×Int:=if chkCode j=0 then (match ordGo j.inputs.length j.stages j.stages.length [] with|some l=>(l,0)|none=>([],7)) else ([],chkCode j)
theorem ordGo_succ {ni:Int} {ss:List StageV} {i:Nat} {out:List Int} {n:Int} (hn:ordPick ni out ss 0=n) (h:0<=n) (hi:i<ss.length):ordGo ni ss (ss.length-i) out=ordGo ni ss (ss.length-(i+1)) (out++[n]):=by
  have e:ss.length-i=(ss.length-(i+1))+1:=by omega
  rw [e,ordGo,hn,if_neg (by omega)]
theorem ordGo_none {ni:Int} {ss:List StageV} {i:Nat} {out:List Int} {n:Int} (hn:ordPick ni out ss 0=n) (h:n<0) (hi:i<ss.length):ordGo ni ss (ss.length-i) out=none:=by
  have e:ss.length-i=(ss.length-(i+1))+1:=by omega
  rw [e,ordGo,hn,if_pos h]
theorem ordPick_range {ni:Int} {out:List Int} {n:Nat}:∀(l:List StageV) (i:Nat),i+l.length=n->0<=ordPick ni out l i->ni<=ordPick ni out l i/\ordPick ni out l i<ni+n
  |[],i,_,h=>by simp [ordPick] at h
  |s::l,i,hl,h=>by
    unfold ordPick at h⊢
    simp only [List.length_cons] at hl
    split
    · omega
    · rename_i hc
      rw [if_neg hc] at h
      exact ordPick_range l (i+1) (by omega) h
theorem ordGo_range {ni:Int} {ss:List StageV}:∀(k:Nat) (out l:List Int),(∀x∈out,ni<=x/\x<ni+ss.length)->ordGo ni ss k out=some l->∀x∈l,ni<=x/\x<ni+ss.length
 |0,out,l,ho,h=>by simp only [ordGo,Option.some.injEq] at h;subst h;exact ho
 |k+1,out,l,ho,h=>by
  unfold ordGo at h
  split at h
  ·cases h
  ·refine ordGo_range k _ l (fun x hx=>?_) h
   rcases List.mem_append.1 hx with h1|h1
   ·exact ho x h1
   ·simp only [List.mem_singleton] at h1
    subst h1
    have h2:(0:Int)<=ordPick ni out ss ((0:Nat):Int):=by have e:((0:Nat):Int)=0:=rfl;rw [e];omega
    exact ordPick_range ss 0 om h2
theorem ordV_range {j:JobV} (h:(ordV j).2=0):∀x∈(ordV j).1,(j.inputs.length:Int)<=x/\x<j.inputs.length+j.stages.length:=by
  unfold ordV at*
  split at h
  · rename_i hc
    rw [if_pos hc]
    split at h
    · rename_i l hl
      exact ordGo_range _ _ _ (fun x hx=>by cases hx) hl
    · simp at h
  · rename_i hc
    exact absurd h hc
theorem ordV_chk {j:JobV} (h:(ordV j).2=0):chkCode j=0:=by
  unfold ordV at h
  split at h
  · assumption
  · exact h
theorem r17_order (p : Job) (hp : Job.Ok [H] p) (hb : p.inputs.n <= 1000000 /\ p.stages.n <= 1000000 /\ p.outputs.n <= 1000000) (hS : Sat W w (H :: F)) :
  Calls prog 46 #[.agg (encJob p).toArray] w fun e w' => ∃ (az : Option Addr) (nz kz : Nat) (G : Chunk), e = .returned (.tuple #[.slice az nz kz, I ((ordV p.v).2)]) /\ RdT Go.E.encI 1 [G] az nz kz ((ordV p.v).1) /\ Sat W w' (G :: H :: F) := by
 have hl_p_inputs := hp.inputs.le; have hn_p_inputs := hp.inputs.len
 have hl_p_stages := hp.stages.le; have hn_p_stages := hp.stages.len
 have hl_p_outputs := hp.outputs.le; have hn_p_outputs := hp.outputs.len
 have hmi : (p.inputs.l.map Plane.v).length = p.inputs.n := by simp [hn_p_inputs]
 have hms : (p.stages.l.map Stage.v).length = p.stages.n := by simp [hn_p_stages]
 refine callsA 83 func46 rfl <| sR <| sBox hS (.agg (encJob p).toArray) (encJob p).toArray fun c0 _ v0 => pu2 <| zQ <| lA v0 0 0 4 (isAgg28 _) (sizeOf28 _) <| cR call97 (r17_check p (hp.of_mem (mem_flat1 1 (by rfl))) (od) v0.flat) fun _ w0 => pu1 <| zS <| pu2 <| nT <| cN (chkCode p.v) 0 (fun z0 => ?_) (fun z0 => ?_)
 rotate_left
 ·refine sR <| pu3 <| zR <| retT [nS, I (chkCode p.v)] ?_
  have hk : ordV p.v = ([], (chkCode p.v)) := by unfold ordV; rw [if_neg ‹_›]
  have a1 := (w0.dropAt 0 rfl)
  have b1 : Sat W _ ([] :: H :: F) := Sat.nilc a1
  have hl : ([] : List Int) = (ordV p.v).1 := (by rw [hk])
  have hrd := RdT.nil (enc := Go.E.encI) (sz := 1) fR [[]]
  rw [hl] at hrd
  exact ⟨_, _, _, _, (by rw [hk]; rfl), hrd, b1⟩
 refine kS <| pu1 <| nT <| seqE <| blockE ?_
 have c1 := Sat.nilc w0
 refine loopA (γ := Nat × (List Int) × (Option Addr) × Nat × Nat × Chunk) (fun ⟨i, zs, azs, nzs, kzs, czs⟩ => [(1, Pt c0 0), (5, .slice azs nzs kzs)]) (fun ⟨i, zs, azs, nzs, kzs, czs⟩ w => Sat W w (czs :: [(c0, .cells (encJob p).toArray 28 (0, 0))] :: H :: F) /\ i <= p.stages.n /\ (zs.length = i) /\ (ordGo (p.inputs.n : Int) (p.stages.l.map Stage.v) (p.stages.l.map Stage.v).length [] = ordGo (p.inputs.n : Int) (p.stages.l.map Stage.v) ((p.stages.l.map Stage.v).length - i) zs) /\ OwnT Go.E.encI 3 1 azs nzs kzs zs czs) (fun ⟨i, zs, azs, nzs, kzs, czs⟩ => p.stages.n - i) (0, [], none, 0, 0, []) ⟨c1, om, by rfl, by rfl, (OwnT.nil (enc := Go.E.encI) (E := 3) (sz := 1) fR)⟩ ?_
 rintro ⟨i, zs, azs, nzs, kzs, czs⟩ ρ _ ⟨o0, hi, hzi, hG, hOzs⟩
 have hn_zs := hOzs.len; have hl_zs := hOzs.le
 refine seqE <| sR <| pu3 <| sL o0 1 1 (.slice p.stages.a p.stages.n p.stages.k) (isAgg26 _) <| pu2 <| nT <| cD ((nzs : Int) < (p.stages.n : Int)) (fun e1 => ?_) (fun e1 => ?_)
 rotate_left
 ·refine exitE <| xB <| tN <| sR <| pu3 <| zE <| retT [.slice azs nzs kzs, I 0] ?_
  have hk : ordV p.v = (zs, 0) := by
   have h0 : ordGo p.v.inputs.length p.v.stages p.v.stages.length [] = some zs := by
    have h := hG; rw [show (p.stages.l.map Stage.v).length - i = 0 from by simp; omega] at h; rw [<- hmi] at h; exact h
   unfold ordV; rw [if_pos om, h0]
  have f1 := (o0.dropAt 1 rfl)
  have hl : zs = (ordV p.v).1 := (by rw [hk])
  have hrd := (hOzs.rdAt (cs := [czs]) 0 rfl)
  rw [hl] at hrd
  exact ⟨_, _, _, _, (by rw [hk]; rfl), hrd, f1⟩
 refine kT <| blockE <| sR <| pu1 <| zQ <| pu1 <| nT <| blockE <| loopA (γ := Nat × Int) (fun ⟨j, nx⟩ => [(1, Pt c0 0), (5, .slice azs nzs kzs), (7, I (j : Int)), (6, I nx)]) (fun ⟨j, nx⟩ w => Sat W w (czs :: [(c0, .cells (encJob p).toArray 28 (0, 0))] :: H :: F) /\ j <= p.stages.n /\ ((nx = -1 /\ ordPick (p.inputs.n : Int) zs (p.stages.l.map Stage.v) 0 = ordPick (p.inputs.n : Int) zs ((p.stages.l.map Stage.v).drop j) (j : Int)) \/ (0 <= nx /\ nx = ordPick (p.inputs.n : Int) zs (p.stages.l.map Stage.v) 0))) (fun ⟨j, nx⟩ => p.stages.n - j) (0, -1) ⟨o0, om, by exact .inl ⟨rfl, rfl⟩⟩ ?_
 rintro ⟨j, nx⟩ ρ _ ⟨f0, hj, hP⟩
 refine seqE <| sR <| pu2 <| sL f0 1 1 (.slice p.stages.a p.stages.n p.stages.k) (isAgg26 _) <| pu3 <| sD 28 ((j : Int) < (p.stages.n : Int)) (fun g1 => ?_) (fun g1 => ?_)
 rotate_left
 ·refine pu3 <| nT <| cFf <| exitE <| xB <| tN <| seqE <| seqE ?_
  have hpk : ordPick (p.inputs.n : Int) zs (p.stages.l.map Stage.v) 0 = nx := by
   rcases hP with ⟨h1, h2⟩ | ⟨h1, h2⟩
   ·rw [h2, List.drop_of_length_le (by simp; omega), h1]; rfl
   ·exact h2.symm
  refine rE <| pu2 <| nT <| cD (nx < 0) (fun i1 => ?_) (fun i1 => ?_)
  rotate_left
  ·refine kT <| rE <| pu2 <| sBS f0 #[I nx] runUnderlying22 sizeOf3 zeroValue3 fun _ _ j1 => sApp (nb := 8) j1 hOzs 1 (RdT.blk (enc := Go.E.encI) (sz := 1) (xs := [nx]) fR 1 0 rfl rfl rfl om) underlying22 (i := Tryz.t3) kr fR fun k1 l1 m1 _ n1 o1 => pu1 <| nB ?_
   exact ⟨(i + 1, (zs ++ [nx]), k1, (nzs + 1), l1, m1), od, alA, (o1.dropAt 0 rfl), om, by simp; omega, by rw [hG]; exact ordGo_succ hpk om (by simp; omega), n1⟩
  refine sR <| pu2 <| zE <| tR <| tR <| tK <| retT [nS, I 7] ?_
  have hk : ordV p.v = ([], 7) := by
   have h0 : ordGo p.v.inputs.length p.v.stages p.v.stages.length [] = none := by
    have h := hG; rw [ordGo_none hpk om (by simp; omega)] at h; rw [<- hmi] at h; exact h
   unfold ordV; rw [if_pos om, h0]
  have q1 := (f0.drops [0, 0])
  have r1 : Sat W _ ([] :: H :: F) := Sat.nilc q1
  have hl : ([] : List Int) = (ordV p.v).1 := (by rw [hk])
  have hrd := RdT.nil (enc := Go.E.encI) (sz := 1) fR [[]]
  rw [hl] at hrd
  exact ⟨_, _, _, _, (by rw [hk]; rfl), hrd, r1⟩
 refine pu3 <| nT <| cD (nx < 0) (fun x0 => ?_) (fun x0 => ?_)
 rotate_left
 ·refine exitE <| xB <| tN <| seqE <| seqE ?_
  have hpk : ordPick (p.inputs.n : Int) zs (p.stages.l.map Stage.v) 0 = nx := by
   rcases hP with ⟨h1, h2⟩ | ⟨h1, h2⟩
   ·rw [h2, List.drop_of_length_le (by simp; omega), h1]; rfl
   ·exact h2.symm
  refine rE <| pu2 <| nT <| cF _ (decide_eq_false x0) <| kT <| rE <| pu2 <| sBS f0 #[I nx] runUnderlying22 sizeOf3 zeroValue3 fun _ _ s1 => sApp (nb := 8) s1 hOzs 1 (RdT.blk (enc := Go.E.encI) (sz := 1) (xs := [nx]) fR 1 0 rfl rfl rfl om) underlying22 (i := Tryz.t3) kr fR fun t1 u1 v1 _ w1 x1 => pu1 <| nB ?_
  exact ⟨(i + 1, (zs ++ [nx]), t1, (nzs + 1), u1, v1), od, alA, (x1.dropAt 0 rfl), om, by simp; omega, by rw [hG]; exact ordGo_succ hpk om (by simp; omega), w1⟩
 refine kT <| seqE <| blockE <| seqE ?_
 obtain ⟨hnx, hP1⟩ : nx = -1 /\ ordPick (p.inputs.n : Int) zs (p.stages.l.map Stage.v) 0 = ordPick (p.inputs.n : Int) zs ((p.stages.l.map Stage.v).drop j) j := by
  rcases hP with h | h
  ·exact h
  ·omega
 refine rE <| pu1 <| sL f0 1 0 (.slice p.inputs.a p.inputs.n p.inputs.k) (isAgg25 _) <| pu2 <| sAdd (p.inputs.n : Int) (j : Int) <| pu1 <| zS <| pu2 <| cR call98 (r17_has azs nzs kzs zs ((p.inputs.n : Int) + (j : Int)) (RdT.flat (hOzs.rdAt 0 (by rfl))) f0.flat) fun _ p0 => pu2 <| zS <| pu1 <| sL p0 1 1 (.slice p.stages.a p.stages.n p.stages.k) (isAgg26 _) <| pu1 <| sIdx hp.stages (j : Int) runUnderlying26 sizeOf53 fun d0 _ _ k0 z1 => ?_
 rw [Int.toNat_natCast] at k0
 refine sLpA p0 (z1.up 2 rfl) 0 (encStage d0) (isAgg53 _) (sizeOf53 _) <| cX call99 (r15_sources d0 ((hp.stagesD d0 (List.mem_of_getElem? k0)).of_mem (mem_flat1 2 (by rfl))) p0.flat) ?_
 rintro _ _ ⟨l0, e0, m0, a2, rfl, q0, b2⟩
 have c2 := b2.unflat1
 have hn_az_28 := q0.len; have hl_az_28 := q0.le
 have y2 : 1 <= (srcs d0.v).length /\ (srcs d0.v).length <= 2 := srcs_len _
 refine pu1 <| zQ <| pu1 <| nT <| blockE <| loopA (γ := Nat × Bool) (fun ⟨k, rd⟩ => [(1, Pt c0 0), (5, .slice azs nzs kzs), (7, I (j : Int)), (6, I nx), (8, I ((p.inputs.n : Int) + (j : Int))), (10, .slice l0 e0 m0), (11, I (k : Int)), (9, .bool rd)]) (fun ⟨k, rd⟩ w => Sat W w (a2 :: czs :: [(c0, .cells (encJob p).toArray 28 (0, 0))] :: H :: F) /\ k <= e0 /\ (rd = (decide (¬ ((p.inputs.n : Int) + (j : Int)) ∈ zs) && ((srcs d0.v).take k).all (fun x => decide (x < (p.inputs.n : Int) \/ x ∈ zs))))) (fun ⟨k, rd⟩ => e0 - k) (0, (!decide (((p.inputs.n : Int) + (j : Int)) ∈ zs))) ⟨c2, om, by simp⟩ ?_
 rintro ⟨k, rd⟩ ρ _ ⟨a0, hk, hQ⟩
 refine seqE <| sR <| pu4 <| nT <| cD ((k : Int) < (e0 : Int)) (fun d2 => ?_) (fun d2 => ?_)
 rotate_left
 ·refine exitE <| xB <| tN <| seqE ?_
  have hrd : rd = (decide (¬ ((p.inputs.n : Int) + (j : Int)) ∈ zs) && ordOK (p.inputs.n : Int) zs d0.v) := by rw [hQ, List.take_of_length_le om]; rfl
  refine rE <| pu1 <| nT <| cB rd (fun e2 => ?_) (fun e2 => ?_)
  rotate_left
  ·refine skipE <| bN <| tN <| rE <| pu1 <| sAdd (j : Int) 1 <| pu1 <| nT ?_
   exact ⟨(j + 1, nx), od, alA, (a0.dropAt 0 rfl), om, .inl ⟨hnx, by rw [hP1, drop_at (map_at (f := Stage.v) k0), ordPick, if_neg (by rw [<- hrd]; assumption)]; rfl⟩⟩
  refine rE <| pu2 <| nB <| rE <| pu1 <| sAdd (j : Int) 1 <| pu1 <| nT ?_
  exact ⟨(j + 1, ((p.inputs.n : Int) + (j : Int))), od, alA, (a0.dropAt 0 rfl), om, .inr ⟨om, by rw [hP1, drop_at (map_at (f := Stage.v) k0), ordPick, if_pos (by rw [<- hrd]; assumption)]⟩⟩
 refine kT <| seqE <| blockE ?_
 rcases Classical.em (rd = true) with n0 | n0
 rotate_left
 ·refine drawE [16] [] [(true, [0, 1]), (true, [2, 3, 4, 6, 5, 7, 8, 9, 10, 11, 12, 13, 14, 15]), (false, [16]), (true, [17, 18, 19])] rfl kr trivial ?_
  have i2 := a0.drew
  refine wU [0, 1] <| wFix 56 _ false (Bool.eq_false_iff.2 n0) <| wU [2, 3, 4, 6, 5, 7, 8, 9, 10, 11, 12, 13, 14, 15] <| wO rfl <| pu1 <| nilO ⟨trivial, ?_⟩
  exact wU [17, 18, 19] <| wN <| bN <| tN <| rE <| pu1 <| sAdd (k : Int) 1 <| pu1 <| nT <| ⟨(k + 1, false), od, alA, i2, om, (all_take_false (hQ.symm.trans (by simpa using (by assumption : ¬ rd = true)))).symm⟩
 obtain ⟨b0, g0, i0, r0, j0, s0⟩ := RdT.elem q0 (k : Int)
 rw [Int.toNat_natCast] at r0
 by_cases y0 : (b0 : Int) < (p.inputs.n : Int)
 ·refine drawE [16] [(5, ⟨g0, i0, none⟩, I b0), (7, ⟨c0, 0, none⟩, .slice p.inputs.a p.inputs.n p.inputs.k)] [(true, [0, 1]), (true, [2, 3]), (true, [4]), (true, [6]), (true, [5]), (true, [7]), (true, [8, 9, 10]), (true, [11, 12, 13, 14, 15]), (false, [16]), (true, [17, 18, 19])] rfl kr ⟨.inr ((j0.up 0 rfl).cell a0 (k := 0) rfl), cI a0 2, trivial⟩ ?_
  have t0 := a0.drew
  refine wU [0, 1] <| wFix 56 _ true n0 <| wU [2, 3] <| wY (.pointer (some ⟨g0, i0, none⟩)) rfl (fun w _ => Y_idx (a := l0) (i := (k : Int)) (len := e0) (cap := m0) rfl runUnderlying22 sizeOf3 kr kr s0) <| wU [6] <| wLd (I b0) 0 isAgg3 <| wLd (.slice p.inputs.a p.inputs.n p.inputs.k) 1 isAgg25 <| wU [8, 9, 10] <| wFix 65 _ true (decide_eq_true y0) <| wU [11, 12, 13, 14, 15] <| wO rfl <| pu1 <| nilO ⟨⟨.inr ((j0.up 0 rfl).cell t0 (k := 0) rfl), cI t0 2, trivial⟩, ?_⟩
  refine wU [17, 18, 19] <| wN <| bN <| tN <| rE <| pu1 <| sAdd (k : Int) 1 <| pu1 <| nT ?_
  exact ⟨(k + 1, true), od, alA, t0, om, by rw [all_take_succ r0, <- Bool.and_assoc, <- hQ, (by assumption : rd = true), Bool.true_and]; exact (decide_eq_true (.inl ‹_›)).symm⟩
 refine drawE [16] [(5, ⟨g0, i0, none⟩, I b0), (7, ⟨c0, 0, none⟩, .slice p.inputs.a p.inputs.n p.inputs.k), (15, ⟨g0, i0, none⟩, I b0)] [(true, [0, 1]), (true, [2, 3]), (true, [4]), (true, [6]), (true, [5]), (true, [7]), (true, [8, 9, 10]), (true, [11, 12, 13]), (true, [14]), (true, [15]), (false, [16]), (true, [17, 18, 19])] rfl kr ⟨.inr ((j0.up 0 rfl).cell a0 (k := 0) rfl), cI a0 2, .inr ((j0.up 0 rfl).cell a0 (k := 0) rfl), trivial⟩ ?_
 have j2 := a0.drew
 refine wU [0, 1] <| wFix 56 _ true n0 <| wU [2, 3] <| wY (.pointer (some ⟨g0, i0, none⟩)) rfl (fun w _ => Y_idx (a := l0) (i := (k : Int)) (len := e0) (cap := m0) rfl runUnderlying22 sizeOf3 kr kr s0) <| wU [6] <| wLd (I b0) 0 isAgg3 <| wLd (.slice p.inputs.a p.inputs.n p.inputs.k) 1 isAgg25 <| wU [8, 9, 10] <| wFix 65 _ false (decide_eq_false y0) <| wU [11, 12, 13] <| wY (.pointer (some ⟨g0, i0, none⟩)) rfl (fun w _ => Y_idx (a := l0) (i := (k : Int)) (len := e0) (cap := m0) rfl runUnderlying22 sizeOf3 kr kr s0) <| wLd (I b0) 2 isAgg3 <| wO rfl <| gY <| cR call98 (r17_has azs nzs kzs zs b0 (RdT.flat (hOzs.rdAt 1 (by rfl))) j2.flat) fun _ u0 => ?_
 refine nilO ⟨⟨.inr ((j0.up 0 rfl).cell u0 (k := 0) rfl), cI u0 2, dI, trivial⟩, ?_⟩
 refine wU [17, 18, 19] <| wN <| bN <| tN <| rE <| pu1 <| sAdd (k : Int) 1 <| pu1 <| nT ?_
 exact ⟨(k + 1, decide (b0 ∈ zs)), od, alA, u0, om, by rw [all_take_succ r0, <- Bool.and_assoc, <- hQ, (by assumption : rd = true), Bool.true_and]; exact decide_eq_decide.2 ⟨fun h => .inr h, fun h => h.resolve_left ‹_›⟩⟩
def shpOf (p:PlaneV):Shape:=⟨p.w,p.h,p.max_⟩
def shpAt (l:List Shape) (i:Int):Shape:=l[i.toNat]?.getD ⟨0,0,0⟩
def stgAt (ss:List StageV) (ni n:Int):StageV:=ss[(n-ni).toNat]?.getD ⟨0,0,0,false,0,0,0,0,[],[],[],0,0,[],[],0,[],0⟩
def shpStep (ni:Int) (ss:List StageV) (n:Int) (out:List Shape):Shape×Int:=
  ofV (stgAt ss ni n) (shpAt out (stgAt ss ni n).a) (if twoP (stgAt ss ni n) then shpAt out (stgAt ss ni n).b else ⟨0,0,0⟩)
def shpGo (ni:Int) (ss:List StageV):List Int->List Shape->List Shape×Int×Int
  |[],out=>(out,0,0)
  |n::l,out=>if (shpStep ni ss n out).2=0 then shpGo ni ss l (out.set n.toNat (shpStep ni ss n out).1) else ([],n,(shpStep ni ss n out).2)
def shpV (j:JobV):List Shape×Int×Int:=
  if (ordV j).2=0 then (if j.inputs.all planeOK=true then shpGo j.inputs.length j.stages (ordV j).1 (j.inputs.map shpOf++List.replicate j.stages.length ⟨0,0,0⟩) else ([],(j.inputs.takeWhile planeOK).length,1)) else ([],0,(ordV j).2)
theorem takeWhile_at {α:Type} {p:α->Bool}:∀{l:List α} {i:Nat} {x:α},(l.take i).all p=true->l[i]?=some x->p x=false->(l.takeWhile p).length=i
  |[],i,x,_,h,_=>by simp at h
  |y::l,0,x,_,h,e=>by simp at h;subst h;simp [e]
  |y::l,i+1,x,h0,h,e=>by
    simp only [List.take_succ_cons,List.all_cons,Bool.and_eq_true] at h0
    rw [List.takeWhile_cons,if_pos h0.1]
    simp only [List.length_cons]
    rw [takeWhile_at h0.2 (by simpa using h) e]
theorem chk_src {j:JobV} (h:chkCode j=0) {s:StageV} (hs:s∈j.stages):(0<=s.a/\s.a<j.inputs.length+j.stages.length)/\(twoP s->0<=s.b/\s.b<j.inputs.length+j.stages.length):=by
  unfold chkCode at h
  split at h
  · split at h
    · split at h
      · rename_i hall
        have h1:=List.all_eq_true.1 hall s hs
        have h2:=fun x hx=>of_decide_eq_true (List.all_eq_true.1 h1 x hx)
        constructor
        · exact h2 s.a (by unfold srcs;split<;>simp)
        · intro ht;exact h2 s.b (by unfold srcs;rw [if_pos ht];simp)
      · omega
    · omega
  · omega
theorem r17_of (p:Plane) (hp:Plane.Ok [H] p) (hS:Sat W w (H::F)):
  Ro prog 25 #[.agg (encPlane p).toArray] (.agg #[I p.w,I p.h,I p.max_]) W w (H::F):=by
 have hl_p_pix:=hp.pix.le;have hn_p_pix:=hp.pix.len
 refine callsA 10 func25 rfl<|sR<|sBox hS (.agg (encPlane p).toArray) (encPlane p).toArray fun _ _ c0=>sAlloc c0 zeroValue65 fun _ _ a0=>zS<|pu1<|sL a0 1 0 (I p.w) (isAgg3 _)<|pu1<|sL a0 1 1 (I p.h) (isAgg3 _)<|pu1<|sL a0 1 2 (I p.max_) (isAgg3 _)<|pu1 ?_
 exact sT a0 0 0 (.agg #[I p.w,I p.h,I p.max_]) [I p.w,I p.h,I p.max_] #[I p.w,I p.h,I p.max_] sizeOf65 fun _ b0=>zE<|retN (vs:=[.agg #[I p.w,I p.h,I p.max_]]) rfl (.cons (.cell _ _ _ _ kr (lvA b0 0 0 [I p.w,I p.h,I p.max_] (isAgg65 _) (sizeOf65 _) rfl rfl rfl)) .nil)<|⟨rfl,(b0.drops [0,0])⟩
theorem r17_shapes (p : Job) (hp : Job.Ok [H] p) (hb : p.inputs.n <= 1000000 /\ p.stages.n <= 1000000 /\ p.outputs.n <= 1000000) (hS : Sat W w (H :: F)) :
  Calls prog 96 #[.agg (encJob p).toArray] w fun e w' => ∃ (az : Option Addr) (nz kz : Nat) (G : Chunk), e = .returned (.tuple #[.slice az nz kz, I ((shpV p.v).2.1), I ((shpV p.v).2.2)]) /\ RdT encShape 3 [G] az nz kz ((shpV p.v).1) /\ Sat W w' (G :: H :: F) := by
 have hl_p_inputs := hp.inputs.le; have hn_p_inputs := hp.inputs.len
 have hl_p_stages := hp.stages.le; have hn_p_stages := hp.stages.len
 have hl_p_outputs := hp.outputs.le; have hn_p_outputs := hp.outputs.len
 have hmi : (p.inputs.l.map Plane.v).length = p.inputs.n := by simp [hn_p_inputs]
 have hms : (p.stages.l.map Stage.v).length = p.stages.n := by simp [hn_p_stages]
 refine callsA 106 func96 rfl <| sR <| sBox hS (.agg (encJob p).toArray) (encJob p).toArray fun b1 _ c2 => pu3 <| zS <| lA c2 0 0 4 (isAgg28 _) (sizeOf28 _) <| cX call46 (r17_order p (hp.of_mem (mem_flat1 1 (by rfl))) (od) c2.flat) ?_
 rintro _ _ ⟨t0, r0, u0, d2, rfl, v0, h3⟩
 have g1 := h3.unflat1
 have hn_az_7 := v0.len; have hl_az_7 := v0.le
 refine pu5 <| zQ <| pu2 <| nT <| cN ((ordV p.v).2) 0 (fun i3 => ?_) (fun i3 => ?_)
 rotate_left
 ·refine sR <| pu4 <| zR <| retT [nS, I 0, I ((ordV p.v).2)] ?_
  have hk : shpV p.v = ([], 0, (ordV p.v).2) := by unfold shpV; rw [if_neg ‹_›]
  have j3 := (g1.drops [0, 0])
  have k3 : Sat W _ ([] :: H :: F) := Sat.nilc j3
  have hl : ([] : List Shape) = (shpV p.v).1 := (by rw [hk])
  have hrd := RdT.nil (enc := encShape) (sz := 3) fR [[]]
  rw [hl] at hrd
  exact ⟨_, _, _, _, (by rw [hk]; rfl), hrd, k3⟩
 refine kS <| pu1 <| sL g1 1 0 (.slice p.inputs.a p.inputs.n p.inputs.k) (isAgg25 _) <| pu2 <| sL g1 1 1 (.slice p.stages.a p.stages.n p.stages.k) (isAgg26 _) <| pu1 <| sAdd (p.inputs.n : Int) (p.stages.n : Int) <| sMake (kl := .i64) (kc := .i64) (enc := encShape) (sz := 3) (nb := 24) g1 ⟨0, 0, 0⟩ (((p.inputs.n : Int) + (p.stages.n : Int))).toNat ((p.inputs.n : Int) + (p.stages.n : Int)) (om : ((p.inputs.n : Int) + (p.stages.n : Int)) = (((((p.inputs.n : Int) + (p.stages.n : Int))).toNat : Nat) : Int)) underlying82 (i := Tryz.t65) kr fR fun l3 m3 _ n3 o3 => pu1 <| zQ <| pu1 <| nT <| blockE ?_
 refine loopA (γ := Nat × (List Shape) × (Option Addr) × Nat × Nat × Chunk) (fun ⟨i, zs, azs, nzs, kzs, czs⟩ => [(1, Pt b1 0), (5, .slice t0 r0 u0), (8, I (i : Int)), (7, .slice azs nzs kzs)]) (fun ⟨i, zs, azs, nzs, kzs, czs⟩ w => Sat W w (czs :: d2 :: [(b1, .cells (encJob p).toArray 28 (0, 0))] :: H :: F) /\ i <= p.inputs.n /\ (zs = ((p.inputs.l.map Plane.v).take i).map shpOf ++ List.replicate (p.inputs.n + p.stages.n - i) ⟨0, 0, 0⟩) /\ (((p.inputs.l.map Plane.v).take i).all planeOK = true) /\ (zs.length = p.inputs.n + p.stages.n) /\ OwnT encShape 65 3 azs nzs kzs zs czs) (fun ⟨i, zs, azs, nzs, kzs, czs⟩ => p.inputs.n - i) (0, (List.replicate (((p.inputs.n : Int) + (p.stages.n : Int))).toNat ⟨0, 0, 0⟩), (At l3 0), (((p.inputs.n : Int) + (p.stages.n : Int))).toNat, (((p.inputs.n : Int) + (p.stages.n : Int))).toNat, m3) ⟨o3, om, by simp; omega, by rfl, by simp; omega, n3⟩ ?_
 rintro ⟨i, zs, azs, nzs, kzs, czs⟩ ρ _ ⟨f1, hi, hZ, hV, hzl, hOzs⟩
 have hn_zs := hOzs.len; have hl_zs := hOzs.le
 refine seqE <| sR <| pu2 <| sL f1 2 0 (.slice p.inputs.a p.inputs.n p.inputs.k) (isAgg25 _) <| pu2 <| nT <| cD ((i : Int) < (p.inputs.n : Int)) (fun p3 => ?_) (fun p3 => ?_)
 ·refine kT <| seqE <| blockE <| seqE <| sR <| pu1 <| sL f1 2 0 (.slice p.inputs.a p.inputs.n p.inputs.k) (isAgg25 _) <| pu1 <| sIdx hp.inputs (i : Int) runUnderlying25 sizeOf38 fun m0 _ _ w0 q3 => ?_
  rw [Int.toNat_natCast] at w0
  refine sLpA f1 (q3.up 3 rfl) 0 (encPlane m0) (isAgg38 _) (sizeOf38 _) <| cR call76 (r4_valid m0 ⟨(RdT.flat ((hp.inputsD m0 (List.mem_of_getElem? w0)).pix.up 3 (by rfl)))⟩ f1.flat) fun _ h1 => pu1 <| nT <| cBn (planeOK m0.v) (fun r3 => ?_) (fun r3 => ?_)
  rotate_left
  ·refine sR <| pu4 <| zE <| tR <| tK <| tR <| tK <| retT [nS, I (i : Int), I 1] ?_
   have hbad : (p.inputs.l.map Plane.v).all planeOK = false := all_false_at (map_at (f := Plane.v) w0) (by simpa using (by assumption : ¬ planeOK m0.v = true))
   have htw : ((p.inputs.l.map Plane.v).takeWhile planeOK).length = i := takeWhile_at hV (map_at (f := Plane.v) w0) (by simpa using (by assumption : ¬ planeOK m0.v = true))
   have hk : shpV p.v = ([], (i : Int), 1) := by unfold shpV; rw [if_pos ‹_›, if_neg (by exact fun h => Bool.false_ne_true (hbad.symm.trans h))]; exact congrArg (fun n : Nat => (([] : List Shape), (n : Int), (1 : Int))) htw
   have s3 := (h1.drops [0, 0, 0])
   have t3 : Sat W _ ([] :: H :: F) := Sat.nilc s3
   have hl : ([] : List Shape) = (shpV p.v).1 := (by rw [hk])
   have hrd := RdT.nil (enc := encShape) (sz := 3) fR [[]]
   rw [hl] at hrd
   exact ⟨_, _, _, _, (by rw [hk]; rfl), hrd, t3⟩
  refine kT <| rE <| pu3 <| sL h1 2 0 (.slice p.inputs.a p.inputs.n p.inputs.k) (isAgg25 _) <| pu1 <| sIdx hp.inputs (i : Int) runUnderlying25 sizeOf38 fun u3 _ _ p1 v3 => ?_
  rw [Int.toNat_natCast] at p1
  obtain rfl : m0 = u3 := Option.some.inj (w0.symm.trans p1)
  refine sLpA h1 (v3.up 3 rfl) 0 (encPlane m0) (isAgg38 _) (sizeOf38 _) <| cR call25 (r17_of m0 ⟨(RdT.flat ((hp.inputsD m0 (List.mem_of_getElem? p1)).pix.up 3 (by rfl)))⟩ h1.flat) fun _ w3 => sIdxO hOzs (i : Int) i runUnderlying82 sizeOf65 fun x3 _ _ y3 _ z3 => sStF w3 hOzs z3 0 i 0 x3 (⟨m0.w, m0.h, m0.max_⟩ : Shape) y3 (.agg #[I m0.w, I m0.h, I m0.max_]) [I m0.w, I m0.h, I m0.max_] sizeOf65 fun _ a4 b4 c4 => nB <| rE <| pu1 <| sAdd (i : Int) 1 <| pu1 <| nT ?_
  exact ⟨(i + 1, (zs.set i (⟨m0.w, m0.h, m0.max_⟩ : Shape)), azs, nzs, kzs, a4), od, alA, c4, om, by rw [hZ]; exact set_rep (f := shpOf) (map_at (f := Plane.v) w0) om, all_succ hV (map_at (f := Plane.v) w0) ‹_›, by simp; omega, b4⟩
 refine exitE <| xB <| tN <| seqE <| seqE ?_
 have hall : (p.inputs.l.map Plane.v).all planeOK = true := all_of_take hV (by simp; omega)
 have hzs : zs = (p.inputs.l.map Plane.v).map shpOf ++ List.replicate p.stages.n ⟨0, 0, 0⟩ := by rw [hZ, List.take_of_length_le (by simp; omega)]; congr 2; omega
 have hordr := ordV_range (j := p.v) om; have hchk := ordV_chk (j := p.v) om
 refine rE <| pu1 <| nT <| blockE ?_
 refine loopA (γ := Nat × (List Shape) × (Option Addr) × Nat × Nat × Chunk) (fun ⟨i, ys, ays, nys, kys, cys⟩ => [(1, Pt b1 0), (5, .slice t0 r0 u0), (9, I (i : Int)), (7, .slice ays nys kys)]) (fun ⟨i, ys, ays, nys, kys, cys⟩ w => Sat W w (cys :: d2 :: [(b1, .cells (encJob p).toArray 28 (0, 0))] :: H :: F) /\ i <= r0 /\ (shpGo (p.inputs.n : Int) (p.stages.l.map Stage.v) ((ordV p.v).1) zs = shpGo (p.inputs.n : Int) (p.stages.l.map Stage.v) (((ordV p.v).1).drop i) ys) /\ (ys.length = p.inputs.n + p.stages.n) /\ OwnT encShape 65 3 ays nys kys ys cys) (fun ⟨i, ys, ays, nys, kys, cys⟩ => r0 - i) (0, zs, azs, nzs, kzs, czs) ⟨f1, om, by rfl, by rw [hzs]; simp; omega, hOzs⟩ ?_
 rintro ⟨i, ys, ays, nys, kys, cys⟩ ρ _ ⟨l0, hi, hS2, hyl, hOys⟩
 have hn_ys := hOys.len; have hl_ys := hOys.le
 refine seqE <| sR <| pu4 <| nT <| cD ((i : Int) < (r0 : Int)) (fun d4 => ?_) (fun d4 => ?_)
 rotate_left
 ·refine exitE <| xB <| tN <| sR <| pu4 <| zE <| retT [.slice ays nys kys, I 0, I 0] ?_
  have hk0 : shpV p.v = shpGo (p.inputs.n : Int) (p.stages.l.map Stage.v) ((ordV p.v).1) zs := by unfold shpV; rw [if_pos ‹_›, if_pos (by exact hall)]; rw [hzs, <- hms, <- hmi]; rfl
  have hk : shpV p.v = (ys, 0, 0) := by rw [hk0, hS2, List.drop_of_length_le om]; rfl
  have e4 := (l0.drops [1, 1])
  have hl : ys = (shpV p.v).1 := (by rw [hk])
  have hrd := (hOys.rdAt (cs := [cys]) 0 rfl)
  rw [hl] at hrd
  exact ⟨_, _, _, _, (by rw [hk]; rfl), hrd, e4⟩
 refine kT <| seqE <| blockE <| seqE ?_
 obtain ⟨b0, e2, f2, q0, g2, f4⟩ := RdT.elem v0 (i : Int)
 rw [Int.toNat_natCast] at q0
 have hox_x_53 : (p.inputs.n : Int) <= b0 /\ b0 < (p.inputs.n : Int) + (p.stages.n : Int) := by have h := hordr b0 (List.mem_of_getElem? q0); simp only [Job.v] at h; omega
 obtain ⟨a0, o0, p0, s0, g0, g4⟩ := RdT.elem hp.stages (b0 - (p.inputs.n : Int))
 obtain ⟨hsa, hsb⟩ := chk_src hchk (s := a0.v) (List.mem_map_of_mem (List.mem_of_getElem? s0))
 have hsa2 : 0 <= a0.a /\ a0.a < (p.inputs.n : Int) + (p.stages.n : Int) := by simp only [Job.v, Stage.v] at hsa; omega
 have hsb2 : (a0.kind = 6 /\ ¬ a0.b = -1) -> 0 <= a0.b /\ a0.b < (p.inputs.n : Int) + (p.stages.n : Int) := by intro h; have h2 := hsb (by unfold twoP; simp only [Stage.v]; exact h); simp only [Job.v, Stage.v] at h2; omega
 refine drawE [12, 13] [(1, ⟨b1, 1, none⟩, .slice p.stages.a p.stages.n p.stages.k), (5, ⟨e2, f2, none⟩, I b0), (7, ⟨b1, 0, none⟩, .slice p.inputs.a p.inputs.n p.inputs.k), (11, ⟨o0, p0 + 0, none⟩, I a0.kind), (11, ⟨o0, p0 + 1, none⟩, I a0.a), (11, ⟨o0, p0 + 2, none⟩, I a0.b), (11, ⟨o0, p0 + 3, none⟩, .bool a0.barrier), (11, ⟨o0, p0 + 4, none⟩, I a0.edgePolicy), (11, ⟨o0, p0 + 5, none⟩, I a0.edgeFill), (11, ⟨o0, p0 + 6, none⟩, I a0.kW), (11, ⟨o0, p0 + 7, none⟩, I a0.kH), (11, ⟨o0, p0 + 8, none⟩, .slice a0.weights.a a0.weights.n a0.weights.k), (11, ⟨o0, p0 + 9, none⟩, .slice a0.row.a a0.row.n a0.row.k), (11, ⟨o0, p0 + 10, none⟩, .slice a0.col.a a0.col.n a0.col.k), (11, ⟨o0, p0 + 11, none⟩, I a0.shift), (11, ⟨o0, p0 + 12, none⟩, I a0.shift2), (11, ⟨o0, p0 + 13, none⟩, .slice a0.x.a a0.x.n a0.x.k), (11, ⟨o0, p0 + 14, none⟩, .slice a0.y.a a0.y.n a0.y.k), (11, ⟨o0, p0 + 15, none⟩, I a0.bins), (11, ⟨o0, p0 + 16, none⟩, .slice a0.ops.a a0.ops.n a0.ops.k), (11, ⟨o0, p0 + 17, none⟩, I a0.max_)] [(true, [0, 2, 3]), (true, [4]), (true, [6]), (true, [1]), (true, [5]), (true, [7]), (true, [8]), (true, [9]), (true, [10]), (true, [11]), (false, [12]), (false, [13])] rfl kr ⟨cI l0 2, .inr ((g2.up 1 rfl).cell l0 (k := 0) rfl), cI l0 2, .inr ((g0.up 3 rfl).cell l0 (k := 0) rfl), .inr ((g0.up 3 rfl).cell l0 (k := 1) rfl), .inr ((g0.up 3 rfl).cell l0 (k := 2) rfl), .inr ((g0.up 3 rfl).cell l0 (k := 3) rfl), .inr ((g0.up 3 rfl).cell l0 (k := 4) rfl), .inr ((g0.up 3 rfl).cell l0 (k := 5) rfl), .inr ((g0.up 3 rfl).cell l0 (k := 6) rfl), .inr ((g0.up 3 rfl).cell l0 (k := 7) rfl), .inr ((g0.up 3 rfl).cell l0 (k := 8) rfl), .inr ((g0.up 3 rfl).cell l0 (k := 9) rfl), .inr ((g0.up 3 rfl).cell l0 (k := 10) rfl), .inr ((g0.up 3 rfl).cell l0 (k := 11) rfl), .inr ((g0.up 3 rfl).cell l0 (k := 12) rfl), .inr ((g0.up 3 rfl).cell l0 (k := 13) rfl), .inr ((g0.up 3 rfl).cell l0 (k := 14) rfl), .inr ((g0.up 3 rfl).cell l0 (k := 15) rfl), .inr ((g0.up 3 rfl).cell l0 (k := 16) rfl), .inr ((g0.up 3 rfl).cell l0 (k := 17) rfl), trivial⟩ ?_
 have h4 := l0.drew
 refine wU [0, 2, 3] <| wY (.pointer (some ⟨e2, f2, none⟩)) rfl (fun w _ => Y_idx (a := t0) (i := (i : Int)) (len := r0) (cap := u0) rfl runUnderlying22 sizeOf3 kr kr f4) <| wU [6] <| wLd (.slice p.stages.a p.stages.n p.stages.k) 0 isAgg26 <| wLd (I b0) 1 isAgg3 <| wLd (.slice p.inputs.a p.inputs.n p.inputs.k) 2 isAgg25 <| wU [8] <| wSub b0 (p.inputs.n : Int) <| wY (.pointer (some ⟨o0, p0, none⟩)) rfl (fun w _ => Y_idx (a := p.stages.a) (i := (b0 - (p.inputs.n : Int))) (len := p.stages.n) (cap := p.stages.k) rfl runUnderlying26 sizeOf53 kr kr g4) ?_
 refine wY (.agg (encStage a0).toArray) rfl (fun w hF => Y_loadF rfl (isAgg53 w) (sizeOf53 w) kr rfl ⟨hF 3 _ _ rfl, hF 4 _ _ rfl, hF 5 _ _ rfl, hF 6 _ _ rfl, hF 7 _ _ rfl, hF 8 _ _ rfl, hF 9 _ _ rfl, hF 10 _ _ rfl, hF 11 _ _ rfl, hF 12 _ _ rfl, hF 13 _ _ rfl, hF 14 _ _ rfl, hF 15 _ _ rfl, hF 16 _ _ rfl, hF 17 _ _ rfl, hF 18 _ _ rfl, hF 19 _ _ rfl, hF 20 _ _ rfl, trivial⟩) <| wO rfl <| sAlloc h4 zeroValue53 fun f0 _ n0 => ?_
 refine nilO ⟨⟨cI n0 3, .inr ((g2.up 2 rfl).cell n0 (k := 0) rfl), cI n0 3, .inr ((g0.up 4 rfl).cell n0 (k := 0) rfl), .inr ((g0.up 4 rfl).cell n0 (k := 1) rfl), .inr ((g0.up 4 rfl).cell n0 (k := 2) rfl), .inr ((g0.up 4 rfl).cell n0 (k := 3) rfl), .inr ((g0.up 4 rfl).cell n0 (k := 4) rfl), .inr ((g0.up 4 rfl).cell n0 (k := 5) rfl), .inr ((g0.up 4 rfl).cell n0 (k := 6) rfl), .inr ((g0.up 4 rfl).cell n0 (k := 7) rfl), .inr ((g0.up 4 rfl).cell n0 (k := 8) rfl), .inr ((g0.up 4 rfl).cell n0 (k := 9) rfl), .inr ((g0.up 4 rfl).cell n0 (k := 10) rfl), .inr ((g0.up 4 rfl).cell n0 (k := 11) rfl), .inr ((g0.up 4 rfl).cell n0 (k := 12) rfl), .inr ((g0.up 4 rfl).cell n0 (k := 13) rfl), .inr ((g0.up 4 rfl).cell n0 (k := 14) rfl), .inr ((g0.up 4 rfl).cell n0 (k := 15) rfl), .inr ((g0.up 4 rfl).cell n0 (k := 16) rfl), .inr ((g0.up 4 rfl).cell n0 (k := 17) rfl), trivial⟩, ?_⟩
 refine wO rfl <| sT n0 0 0 (.agg (encStage a0).toArray) (encStage a0) (encStage a0).toArray sizeOf53 fun _ i4 => nilO ⟨dA, ?_⟩
 refine wN <| tN <| sR <| pu1 <| sAlloc i4 zeroValue65 fun c1 _ j4 => ?_
 refine sT j4 0 0 (.agg #[I 0, I 0, I 0]) [I 0, I 0, I 0] #[I 0, I 0, I 0] sizeOf65 fun _ i2 => zQ <| lA i2 1 0 18 (isAgg53 _) (sizeOf53 _) <| cR call47 (r15_two a0 ((hp.stagesD a0 (List.mem_of_getElem? s0)).of_mem (mem_flat1 5 (by rfl))) i2.flat) fun _ h0 => nT <| cD (a0.kind = 6 /\ ¬ a0.b = -1) (fun k4 => ?_) (fun k4 => ?_)
 ·refine rE <| pu2 <| sL h0 1 2 (I a0.b) (isAgg3 _) <| sIdxO hOys a0.b (a0.b).toNat runUnderlying82 sizeOf65 fun c0 _ _ i1 l4 _ => sLpA h0 (l4.up 2 rfl) 0 [I c0.w, I c0.h, I c0.max_] (isAgg65 _) (sizeOf65 _) <| sT h0 0 0 (.agg #[I c0.w, I c0.h, I c0.max_]) [I c0.w, I c0.h, I c0.max_] #[I c0.w, I c0.h, I c0.max_] sizeOf65 fun _ i0 => nT <| seqE ?_
  obtain ⟨d0, j1, k1, l1, d1, m4, s8⟩ := OwnT.elem hOys a0.a
  refine drawP [7, 11, 12] [(0, ⟨f0, 0, none⟩, I a0.kind), (0, ⟨f0, 1, none⟩, I a0.a), (0, ⟨f0, 2, none⟩, I a0.b), (0, ⟨f0, 3, none⟩, .bool a0.barrier), (0, ⟨f0, 4, none⟩, I a0.edgePolicy), (0, ⟨f0, 5, none⟩, I a0.edgeFill), (0, ⟨f0, 6, none⟩, I a0.kW), (0, ⟨f0, 7, none⟩, I a0.kH), (0, ⟨f0, 8, none⟩, .slice a0.weights.a a0.weights.n a0.weights.k), (0, ⟨f0, 9, none⟩, .slice a0.row.a a0.row.n a0.row.k), (0, ⟨f0, 10, none⟩, .slice a0.col.a a0.col.n a0.col.k), (0, ⟨f0, 11, none⟩, I a0.shift), (0, ⟨f0, 12, none⟩, I a0.shift2), (0, ⟨f0, 13, none⟩, .slice a0.x.a a0.x.n a0.x.k), (0, ⟨f0, 14, none⟩, .slice a0.y.a a0.y.n a0.y.k), (0, ⟨f0, 15, none⟩, I a0.bins), (0, ⟨f0, 16, none⟩, .slice a0.ops.a a0.ops.n a0.ops.k), (0, ⟨f0, 17, none⟩, I a0.max_), (3, ⟨f0, 1, none⟩, I a0.a), (5, ⟨j1, k1 + (a0.a).toNat * 3 + 0, none⟩, I d0.w), (5, ⟨j1, k1 + (a0.a).toNat * 3 + 1, none⟩, I d0.h), (5, ⟨j1, k1 + (a0.a).toNat * 3 + 2, none⟩, I d0.max_), (6, ⟨c1, 0, none⟩, I c0.w), (6, ⟨c1, 1, none⟩, I c0.h), (6, ⟨c1, 2, none⟩, I c0.max_)] (Plan.sts [1, 2] <| Plan.sts [0] <| Plan.sts [3] <| Plan.sts [4] <| Plan.sts [5] <| Plan.sts [6] <| .fk 7 11 (Plan.sts [8] <| Plan.sts [9] <| Plan.sts [10] <| .ef 11 <| .ef 12 <| Plan.sts [13] <| .fin) (.ef 7 <| Plan.sts [8] <| Plan.sts [9] <| Plan.sts [10] <| .ef 12 <| Plan.sts [13] <| .fin)) rfl kr ⟨cI i0 1, cI i0 1, cI i0 1, cI i0 1, cI i0 1, cI i0 1, cI i0 1, cI i0 1, cI i0 1, cI i0 1, cI i0 1, cI i0 1, cI i0 1, cI i0 1, cI i0 1, cI i0 1, cI i0 1, cI i0 1, cI i0 1, .inr ((d1.up 2 rfl).cell i0 (k := 0) rfl), .inr ((d1.up 2 rfl).cell i0 (k := 1) rfl), .inr ((d1.up 2 rfl).cell i0 (k := 2) rfl), cI i0 0, cI i0 0, cI i0 0, trivial⟩ ?_
  have j2 := i0.drew
  refine qU [1, 2] <| qY (.agg (encStage a0).toArray) rfl (fun w hF => Y_loadF rfl (isAgg53 w) (sizeOf53 w) kr rfl ⟨hF 0 _ _ rfl, hF 1 _ _ rfl, hF 2 _ _ rfl, hF 3 _ _ rfl, hF 4 _ _ rfl, hF 5 _ _ rfl, hF 6 _ _ rfl, hF 7 _ _ rfl, hF 8 _ _ rfl, hF 9 _ _ rfl, hF 10 _ _ rfl, hF 11 _ _ rfl, hF 12 _ _ rfl, hF 13 _ _ rfl, hF 14 _ _ rfl, hF 15 _ _ rfl, hF 16 _ _ rfl, hF 17 _ _ rfl, trivial⟩) <| qLd (I a0.a) 18 isAgg3 <| qY (.pointer (some ⟨j1, k1 + (a0.a).toNat * 3, none⟩)) rfl (fun w _ => Y_idx (a := ays) (i := a0.a) (len := nys) (cap := kys) rfl runUnderlying82 sizeOf65 kr kr m4) ?_
  refine qY (.agg #[I d0.w, I d0.h, I d0.max_]) rfl (fun w hF => Y_loadF rfl (isAgg65 w) (sizeOf65 w) kr rfl ⟨hF 19 _ _ rfl, hF 20 _ _ rfl, hF 21 _ _ rfl, trivial⟩) <| qY (.agg #[I c0.w, I c0.h, I c0.max_]) rfl (fun w hF => Y_loadF rfl (isAgg65 w) (sizeOf65 w) kr rfl ⟨hF 22 _ _ rfl, hF 23 _ _ rfl, hF 24 _ _ rfl, trivial⟩) <| qF ?_ ?_
  ·refine qO rfl <| cR call77 (r15_of a0 d0 c0 ((hp.stagesD a0 (List.mem_of_getElem? s0)).of_mem (mem_flat1 5 (by rfl))) j2.flat) fun _ k2 => nilO ⟨⟨dI, dI, dI, dI, dI, dI, dI, dI, dI, dI, dI, dI, dI, dI, dI, dI, dI, dI, cI k2 1, dI, dI, dI, dI, dI, dI, trivial⟩, ?_⟩
   refine qU [8] <| qU [9] <| qU [10] <| qO rfl <| sAlloc k2 zeroValue65 fun q1 _ l2 => nilO ⟨⟨dI, dI, dI, dI, dI, dI, dI, dI, dI, dI, dI, dI, dI, dI, dI, dI, dI, dI, cI l2 2, dI, dI, dI, dI, dI, dI, trivial⟩, ?_⟩
   refine qO rfl <| sT l2 0 0 (.agg #[I ((ofV a0.v d0 c0).1.w), I ((ofV a0.v d0 c0).1.h), I ((ofV a0.v d0 c0).1.max_)]) [I ((ofV a0.v d0 c0).1.w), I ((ofV a0.v d0 c0).1.h), I ((ofV a0.v d0 c0).1.max_)] #[I ((ofV a0.v d0 c0).1.w), I ((ofV a0.v d0 c0).1.h), I ((ofV a0.v d0 c0).1.max_)] sizeOf65 fun _ x0 => nilO ⟨dA, ?_⟩
   refine qU [13] <| qN <| tN <| seqE <| sR <| pu2 <| nT <| cN ((ofV a0.v d0 c0).2) 0 (fun n4 => ?_) (fun n4 => ?_)
   rotate_left
   ·refine seqE ?_
    obtain ⟨o4, m2, n2, r1, p4, q4⟩ := RdT.elem v0 (i : Int)
    rw [Int.toNat_natCast] at r1
    obtain rfl : b0 = o4 := Option.some.inj (q0.symm.trans r1)
    have hox_x_53 : (p.inputs.n : Int) <= b0 /\ b0 < (p.inputs.n : Int) + (p.stages.n : Int) := by have h := hordr b0 (List.mem_of_getElem? r1); simp only [Job.v] at h; omega
    refine drawE [] [(3, ⟨m2, n2, none⟩, I b0)] [(true, [0, 1]), (true, [2]), (true, [4, 5]), (true, [3]), (true, [6, 7])] rfl kr ⟨.inr ((p4.up 4 rfl).cell x0 (k := 0) rfl), trivial⟩ ?_
    have r4 := x0.drew
    refine wU [0, 1] <| wY (.pointer (some ⟨m2, n2, none⟩)) rfl (fun w _ => Y_idx (a := t0) (i := (i : Int)) (len := r0) (cap := u0) rfl runUnderlying22 sizeOf3 kr kr q4) <| wU [4, 5] <| wLd (I b0) 0 isAgg3 <| wU [6, 7] <| wN <| tN <| retE <| tR <| tK <| tR <| tK <| retT [nS, I b0, I ((ofV a0.v d0 c0).2)] ?_
    have hk0 : shpV p.v = shpGo (p.inputs.n : Int) (p.stages.l.map Stage.v) ((ordV p.v).1) zs := by unfold shpV; rw [if_pos ‹_›, if_pos (by exact hall)]; rw [hzs, <- hms, <- hmi]; rfl
    have hstg : stgAt (p.stages.l.map Stage.v) (p.inputs.n : Int) b0 = a0.v := by unfold stgAt; rw [map_at (f := Stage.v) s0]; rfl
    have hsa3 : shpAt ys a0.v.a = d0 := by unfold shpAt; rw [show ys[a0.v.a.toNat]? = some d0 from l1]; rfl
    have hsb3 : (if twoP a0.v then shpAt ys a0.v.b else ⟨0, 0, 0⟩) = c0 := by rw [if_pos (by unfold twoP; simp only [Stage.v]; assumption)]; unfold shpAt; rw [show ys[a0.v.b.toNat]? = some c0 from i1]; rfl
    have hst : shpStep (p.inputs.n : Int) (p.stages.l.map Stage.v) b0 ys = ofV a0.v d0 c0 := by unfold shpStep; rw [hstg, hsa3, hsb3]
    have hk : shpV p.v = ([], b0, (ofV a0.v d0 c0).2) := by rw [hk0, hS2, drop_at q0, shpGo, hst, if_neg ‹_›]
    have s4 := (r4.drops [0, 0, 0, 0, 0, 0])
    have t4 : Sat W _ ([] :: H :: F) := Sat.nilc s4
    have hl : ([] : List Shape) = (shpV p.v).1 := (by rw [hk])
    have hrd := RdT.nil (enc := encShape) (sz := 3) fR [[]]
    rw [hl] at hrd
    exact ⟨_, _, _, _, (by rw [hk]; rfl), hrd, t4⟩
   refine kT ?_
   obtain ⟨u4, o2, p2, s1, v4, w4⟩ := RdT.elem v0 (i : Int)
   rw [Int.toNat_natCast] at s1
   obtain rfl : b0 = u4 := Option.some.inj (q0.symm.trans s1)
   have hox_x_53 : (p.inputs.n : Int) <= b0 /\ b0 < (p.inputs.n : Int) + (p.stages.n : Int) := by have h := hordr b0 (List.mem_of_getElem? s1); simp only [Job.v] at h; omega
   obtain ⟨x4, y4, z4, a5, w8, b5, c5⟩ := OwnT.elem hOys b0
   refine drawE [7] [(4, ⟨o2, p2, none⟩, I b0), (5, ⟨q1, 0, none⟩, I ((ofV a0.v d0 c0).1.w)), (5, ⟨q1, 1, none⟩, I ((ofV a0.v d0 c0).1.h)), (5, ⟨q1, 2, none⟩, I ((ofV a0.v d0 c0).1.max_))] [(true, [0, 1, 2]), (true, [3]), (true, [4]), (true, [5]), (true, [6]), (false, [7])] rfl kr ⟨.inr ((v4.up 4 rfl).cell x0 (k := 0) rfl), cI x0 0, cI x0 0, cI x0 0, trivial⟩ ?_
   have d5 := x0.drew
   refine wU [0, 1, 2] <| wY (.pointer (some ⟨o2, p2, none⟩)) rfl (fun w _ => Y_idx (a := t0) (i := (i : Int)) (len := r0) (cap := u0) rfl runUnderlying22 sizeOf3 kr kr w4) <| wLd (I b0) 0 isAgg3 <| wY (.agg #[I ((ofV a0.v d0 c0).1.w), I ((ofV a0.v d0 c0).1.h), I ((ofV a0.v d0 c0).1.max_)]) rfl (fun w hF => Y_loadF rfl (isAgg65 w) (sizeOf65 w) kr rfl ⟨hF 1 _ _ rfl, hF 2 _ _ rfl, hF 3 _ _ rfl, trivial⟩) <| wY (.pointer (some ⟨y4, z4 + (b0).toNat * 3, none⟩)) rfl (fun w _ => Y_idx (a := ays) (i := b0) (len := nys) (cap := kys) rfl runUnderlying82 sizeOf65 kr kr b5) <| wO rfl ?_
   refine sStF d5 hOys c5 3 (b0).toNat 0 x4 (⟨(ofV a0.v d0 c0).1.w, (ofV a0.v d0 c0).1.h, (ofV a0.v d0 c0).1.max_⟩ : Shape) a5 (.agg #[I ((ofV a0.v d0 c0).1.w), I ((ofV a0.v d0 c0).1.h), I ((ofV a0.v d0 c0).1.max_)]) [I ((ofV a0.v d0 c0).1.w), I ((ofV a0.v d0 c0).1.h), I ((ofV a0.v d0 c0).1.max_)] sizeOf65 fun _ e5 f5 g5 => nilO ⟨dA, ?_⟩
   refine wN <| bN <| tN <| rE <| pu1 <| sAdd (i : Int) 1 <| pu1 <| nT ?_
   have hstg : stgAt (p.stages.l.map Stage.v) (p.inputs.n : Int) b0 = a0.v := by unfold stgAt; rw [map_at (f := Stage.v) s0]; rfl
   have hsa3 : shpAt ys a0.v.a = d0 := by unfold shpAt; rw [show ys[a0.v.a.toNat]? = some d0 from l1]; rfl
   have hsb3 : (if twoP a0.v then shpAt ys a0.v.b else ⟨0, 0, 0⟩) = c0 := by rw [if_pos (by unfold twoP; simp only [Stage.v]; assumption)]; unfold shpAt; rw [show ys[a0.v.b.toNat]? = some c0 from i1]; rfl
   have hst : shpStep (p.inputs.n : Int) (p.stages.l.map Stage.v) b0 ys = ofV a0.v d0 c0 := by unfold shpStep; rw [hstg, hsa3, hsb3]
   exact ⟨(i + 1, (ys.set ((b0).toNat) (⟨(ofV a0.v d0 c0).1.w, (ofV a0.v d0 c0).1.h, (ofV a0.v d0 c0).1.max_⟩ : Shape)), ays, nys, kys, e5), od, alA, (g5.drops [0, 0, 0]), om, by rw [hS2, drop_at q0, shpGo, hst, if_pos ‹_›], by simp; omega, f5⟩
  refine qO rfl <| sAlloc j2 zeroValue65 fun t1 _ j0 => nilO ⟨⟨cI j0 2, cI j0 2, cI j0 2, cI j0 2, cI j0 2, cI j0 2, cI j0 2, cI j0 2, cI j0 2, cI j0 2, cI j0 2, cI j0 2, cI j0 2, cI j0 2, cI j0 2, cI j0 2, cI j0 2, cI j0 2, cI j0 2, .inr ((d1.up 3 rfl).cell j0 (k := 0) rfl), .inr ((d1.up 3 rfl).cell j0 (k := 1) rfl), .inr ((d1.up 3 rfl).cell j0 (k := 2) rfl), cI j0 1, cI j0 1, cI j0 1, trivial⟩, ?_⟩
  refine qO rfl <| cR call77 (r15_of a0 d0 c0 ((hp.stagesD a0 (List.mem_of_getElem? s0)).of_mem (mem_flat1 6 (by rfl))) j0.flat) fun _ q2 => nilO ⟨⟨dI, dI, dI, dI, dI, dI, dI, dI, dI, dI, dI, dI, dI, dI, dI, dI, dI, dI, cI q2 2, dI, dI, dI, dI, dI, dI, trivial⟩, ?_⟩
  refine qU [8] <| qU [9] <| qU [10] <| qO rfl <| sT q2 0 0 (.agg #[I ((ofV a0.v d0 c0).1.w), I ((ofV a0.v d0 c0).1.h), I ((ofV a0.v d0 c0).1.max_)]) [I ((ofV a0.v d0 c0).1.w), I ((ofV a0.v d0 c0).1.h), I ((ofV a0.v d0 c0).1.max_)] #[I ((ofV a0.v d0 c0).1.w), I ((ofV a0.v d0 c0).1.h), I ((ofV a0.v d0 c0).1.max_)] sizeOf65 fun _ y0 => nilO ⟨dA, ?_⟩
  refine qU [13] <| qN <| tN <| seqE <| sR <| pu2 <| nT <| cN ((ofV a0.v d0 c0).2) 0 (fun i5 => ?_) (fun i5 => ?_)
  rotate_left
  ·refine seqE ?_
   obtain ⟨j5, r2, s2, u1, k5, l5⟩ := RdT.elem v0 (i : Int)
   rw [Int.toNat_natCast] at u1
   obtain rfl : b0 = j5 := Option.some.inj (q0.symm.trans u1)
   have hox_x_53 : (p.inputs.n : Int) <= b0 /\ b0 < (p.inputs.n : Int) + (p.stages.n : Int) := by have h := hordr b0 (List.mem_of_getElem? u1); simp only [Job.v] at h; omega
   refine drawE [] [(3, ⟨r2, s2, none⟩, I b0)] [(true, [0, 1]), (true, [2]), (true, [4, 5]), (true, [3]), (true, [6, 7])] rfl kr ⟨.inr ((k5.up 4 rfl).cell y0 (k := 0) rfl), trivial⟩ ?_
   have m5 := y0.drew
   refine wU [0, 1] <| wY (.pointer (some ⟨r2, s2, none⟩)) rfl (fun w _ => Y_idx (a := t0) (i := (i : Int)) (len := r0) (cap := u0) rfl runUnderlying22 sizeOf3 kr kr l5) <| wU [4, 5] <| wLd (I b0) 0 isAgg3 <| wU [6, 7] <| wN <| tN <| retE <| tR <| tK <| tR <| tK <| retT [nS, I b0, I ((ofV a0.v d0 c0).2)] ?_
   have hk0 : shpV p.v = shpGo (p.inputs.n : Int) (p.stages.l.map Stage.v) ((ordV p.v).1) zs := by unfold shpV; rw [if_pos ‹_›, if_pos (by exact hall)]; rw [hzs, <- hms, <- hmi]; rfl
   have hstg : stgAt (p.stages.l.map Stage.v) (p.inputs.n : Int) b0 = a0.v := by unfold stgAt; rw [map_at (f := Stage.v) s0]; rfl
   have hsa3 : shpAt ys a0.v.a = d0 := by unfold shpAt; rw [show ys[a0.v.a.toNat]? = some d0 from l1]; rfl
   have hsb3 : (if twoP a0.v then shpAt ys a0.v.b else ⟨0, 0, 0⟩) = c0 := by rw [if_pos (by unfold twoP; simp only [Stage.v]; assumption)]; unfold shpAt; rw [show ys[a0.v.b.toNat]? = some c0 from i1]; rfl
   have hst : shpStep (p.inputs.n : Int) (p.stages.l.map Stage.v) b0 ys = ofV a0.v d0 c0 := by unfold shpStep; rw [hstg, hsa3, hsb3]
   have hk : shpV p.v = ([], b0, (ofV a0.v d0 c0).2) := by rw [hk0, hS2, drop_at q0, shpGo, hst, if_neg ‹_›]
   have n5 := (m5.drops [0, 0, 0, 0, 0, 0])
   have o5 : Sat W _ ([] :: H :: F) := Sat.nilc n5
   have hl : ([] : List Shape) = (shpV p.v).1 := (by rw [hk])
   have hrd := RdT.nil (enc := encShape) (sz := 3) fR [[]]
   rw [hl] at hrd
   exact ⟨_, _, _, _, (by rw [hk]; rfl), hrd, o5⟩
  refine kT ?_
  obtain ⟨p5, t2, u2, v1, q5, r5⟩ := RdT.elem v0 (i : Int)
  rw [Int.toNat_natCast] at v1
  obtain rfl : b0 = p5 := Option.some.inj (q0.symm.trans v1)
  have hox_x_53 : (p.inputs.n : Int) <= b0 /\ b0 < (p.inputs.n : Int) + (p.stages.n : Int) := by have h := hordr b0 (List.mem_of_getElem? v1); simp only [Job.v] at h; omega
  obtain ⟨s5, t5, u5, v5, b9, w5, x5⟩ := OwnT.elem hOys b0
  refine drawE [7] [(4, ⟨t2, u2, none⟩, I b0), (5, ⟨t1, 0, none⟩, I ((ofV a0.v d0 c0).1.w)), (5, ⟨t1, 1, none⟩, I ((ofV a0.v d0 c0).1.h)), (5, ⟨t1, 2, none⟩, I ((ofV a0.v d0 c0).1.max_))] [(true, [0, 1, 2]), (true, [3]), (true, [4]), (true, [5]), (true, [6]), (false, [7])] rfl kr ⟨.inr ((q5.up 4 rfl).cell y0 (k := 0) rfl), cI y0 0, cI y0 0, cI y0 0, trivial⟩ ?_
  have y5 := y0.drew
  refine wU [0, 1, 2] <| wY (.pointer (some ⟨t2, u2, none⟩)) rfl (fun w _ => Y_idx (a := t0) (i := (i : Int)) (len := r0) (cap := u0) rfl runUnderlying22 sizeOf3 kr kr r5) <| wLd (I b0) 0 isAgg3 <| wY (.agg #[I ((ofV a0.v d0 c0).1.w), I ((ofV a0.v d0 c0).1.h), I ((ofV a0.v d0 c0).1.max_)]) rfl (fun w hF => Y_loadF rfl (isAgg65 w) (sizeOf65 w) kr rfl ⟨hF 1 _ _ rfl, hF 2 _ _ rfl, hF 3 _ _ rfl, trivial⟩) <| wY (.pointer (some ⟨t5, u5 + (b0).toNat * 3, none⟩)) rfl (fun w _ => Y_idx (a := ays) (i := b0) (len := nys) (cap := kys) rfl runUnderlying82 sizeOf65 kr kr w5) <| wO rfl ?_
  refine sStF y5 hOys x5 3 (b0).toNat 0 s5 (⟨(ofV a0.v d0 c0).1.w, (ofV a0.v d0 c0).1.h, (ofV a0.v d0 c0).1.max_⟩ : Shape) v5 (.agg #[I ((ofV a0.v d0 c0).1.w), I ((ofV a0.v d0 c0).1.h), I ((ofV a0.v d0 c0).1.max_)]) [I ((ofV a0.v d0 c0).1.w), I ((ofV a0.v d0 c0).1.h), I ((ofV a0.v d0 c0).1.max_)] sizeOf65 fun _ z5 a6 b6 => nilO ⟨dA, ?_⟩
  refine wN <| bN <| tN <| rE <| pu1 <| sAdd (i : Int) 1 <| pu1 <| nT ?_
  have hstg : stgAt (p.stages.l.map Stage.v) (p.inputs.n : Int) b0 = a0.v := by unfold stgAt; rw [map_at (f := Stage.v) s0]; rfl
  have hsa3 : shpAt ys a0.v.a = d0 := by unfold shpAt; rw [show ys[a0.v.a.toNat]? = some d0 from l1]; rfl
  have hsb3 : (if twoP a0.v then shpAt ys a0.v.b else ⟨0, 0, 0⟩) = c0 := by rw [if_pos (by unfold twoP; simp only [Stage.v]; assumption)]; unfold shpAt; rw [show ys[a0.v.b.toNat]? = some c0 from i1]; rfl
  have hst : shpStep (p.inputs.n : Int) (p.stages.l.map Stage.v) b0 ys = ofV a0.v d0 c0 := by unfold shpStep; rw [hstg, hsa3, hsb3]
  exact ⟨(i + 1, (ys.set ((b0).toNat) (⟨(ofV a0.v d0 c0).1.w, (ofV a0.v d0 c0).1.h, (ofV a0.v d0 c0).1.max_⟩ : Shape)), ays, nys, kys, z5), od, alA, (b6.drops [0, 0, 0]), om, by rw [hS2, drop_at q0, shpGo, hst, if_pos ‹_›], by simp; omega, a6⟩
 refine kT <| seqE ?_
 obtain ⟨e0, m1, n1, o1, e1, d6, d9⟩ := OwnT.elem hOys a0.a
 refine drawP [7, 11, 12] [(0, ⟨f0, 0, none⟩, I a0.kind), (0, ⟨f0, 1, none⟩, I a0.a), (0, ⟨f0, 2, none⟩, I a0.b), (0, ⟨f0, 3, none⟩, .bool a0.barrier), (0, ⟨f0, 4, none⟩, I a0.edgePolicy), (0, ⟨f0, 5, none⟩, I a0.edgeFill), (0, ⟨f0, 6, none⟩, I a0.kW), (0, ⟨f0, 7, none⟩, I a0.kH), (0, ⟨f0, 8, none⟩, .slice a0.weights.a a0.weights.n a0.weights.k), (0, ⟨f0, 9, none⟩, .slice a0.row.a a0.row.n a0.row.k), (0, ⟨f0, 10, none⟩, .slice a0.col.a a0.col.n a0.col.k), (0, ⟨f0, 11, none⟩, I a0.shift), (0, ⟨f0, 12, none⟩, I a0.shift2), (0, ⟨f0, 13, none⟩, .slice a0.x.a a0.x.n a0.x.k), (0, ⟨f0, 14, none⟩, .slice a0.y.a a0.y.n a0.y.k), (0, ⟨f0, 15, none⟩, I a0.bins), (0, ⟨f0, 16, none⟩, .slice a0.ops.a a0.ops.n a0.ops.k), (0, ⟨f0, 17, none⟩, I a0.max_), (3, ⟨f0, 1, none⟩, I a0.a), (5, ⟨m1, n1 + (a0.a).toNat * 3 + 0, none⟩, I e0.w), (5, ⟨m1, n1 + (a0.a).toNat * 3 + 1, none⟩, I e0.h), (5, ⟨m1, n1 + (a0.a).toNat * 3 + 2, none⟩, I e0.max_), (6, ⟨c1, 0, none⟩, I 0), (6, ⟨c1, 1, none⟩, I 0), (6, ⟨c1, 2, none⟩, I 0)] (Plan.sts [1, 2] <| Plan.sts [0] <| Plan.sts [3] <| Plan.sts [4] <| Plan.sts [5] <| Plan.sts [6] <| .fk 7 11 (Plan.sts [8] <| Plan.sts [9] <| Plan.sts [10] <| .ef 11 <| .ef 12 <| Plan.sts [13] <| .fin) (.ef 7 <| Plan.sts [8] <| Plan.sts [9] <| Plan.sts [10] <| .ef 12 <| Plan.sts [13] <| .fin)) rfl kr ⟨cI h0 1, cI h0 1, cI h0 1, cI h0 1, cI h0 1, cI h0 1, cI h0 1, cI h0 1, cI h0 1, cI h0 1, cI h0 1, cI h0 1, cI h0 1, cI h0 1, cI h0 1, cI h0 1, cI h0 1, cI h0 1, cI h0 1, .inr ((e1.up 2 rfl).cell h0 (k := 0) rfl), .inr ((e1.up 2 rfl).cell h0 (k := 1) rfl), .inr ((e1.up 2 rfl).cell h0 (k := 2) rfl), cI h0 0, cI h0 0, cI h0 0, trivial⟩ ?_
 have v2 := h0.drew
 refine qU [1, 2] <| qY (.agg (encStage a0).toArray) rfl (fun w hF => Y_loadF rfl (isAgg53 w) (sizeOf53 w) kr rfl ⟨hF 0 _ _ rfl, hF 1 _ _ rfl, hF 2 _ _ rfl, hF 3 _ _ rfl, hF 4 _ _ rfl, hF 5 _ _ rfl, hF 6 _ _ rfl, hF 7 _ _ rfl, hF 8 _ _ rfl, hF 9 _ _ rfl, hF 10 _ _ rfl, hF 11 _ _ rfl, hF 12 _ _ rfl, hF 13 _ _ rfl, hF 14 _ _ rfl, hF 15 _ _ rfl, hF 16 _ _ rfl, hF 17 _ _ rfl, trivial⟩) <| qLd (I a0.a) 18 isAgg3 <| qY (.pointer (some ⟨m1, n1 + (a0.a).toNat * 3, none⟩)) rfl (fun w _ => Y_idx (a := ays) (i := a0.a) (len := nys) (cap := kys) rfl runUnderlying82 sizeOf65 kr kr d6) ?_
 refine qY (.agg #[I e0.w, I e0.h, I e0.max_]) rfl (fun w hF => Y_loadF rfl (isAgg65 w) (sizeOf65 w) kr rfl ⟨hF 19 _ _ rfl, hF 20 _ _ rfl, hF 21 _ _ rfl, trivial⟩) <| qY (.agg #[I 0, I 0, I 0]) rfl (fun w hF => Y_loadF rfl (isAgg65 w) (sizeOf65 w) kr rfl ⟨hF 22 _ _ rfl, hF 23 _ _ rfl, hF 24 _ _ rfl, trivial⟩) <| qF ?_ ?_
 ·refine qO rfl <| cR call77 (r15_of a0 e0 (⟨0, 0, 0⟩ : Shape) ((hp.stagesD a0 (List.mem_of_getElem? s0)).of_mem (mem_flat1 5 (by rfl))) v2.flat) fun _ w2 => nilO ⟨⟨dI, dI, dI, dI, dI, dI, dI, dI, dI, dI, dI, dI, dI, dI, dI, dI, dI, dI, cI w2 1, dI, dI, dI, dI, dI, dI, trivial⟩, ?_⟩
  refine qU [8] <| qU [9] <| qU [10] <| qO rfl <| sAlloc w2 zeroValue65 fun w1 _ x2 => nilO ⟨⟨dI, dI, dI, dI, dI, dI, dI, dI, dI, dI, dI, dI, dI, dI, dI, dI, dI, dI, cI x2 2, dI, dI, dI, dI, dI, dI, trivial⟩, ?_⟩
  refine qO rfl <| sT x2 0 0 (.agg #[I ((ofV a0.v e0 (⟨0, 0, 0⟩ : Shape)).1.w), I ((ofV a0.v e0 (⟨0, 0, 0⟩ : Shape)).1.h), I ((ofV a0.v e0 (⟨0, 0, 0⟩ : Shape)).1.max_)]) [I ((ofV a0.v e0 (⟨0, 0, 0⟩ : Shape)).1.w), I ((ofV a0.v e0 (⟨0, 0, 0⟩ : Shape)).1.h), I ((ofV a0.v e0 (⟨0, 0, 0⟩ : Shape)).1.max_)] #[I ((ofV a0.v e0 (⟨0, 0, 0⟩ : Shape)).1.w), I ((ofV a0.v e0 (⟨0, 0, 0⟩ : Shape)).1.h), I ((ofV a0.v e0 (⟨0, 0, 0⟩ : Shape)).1.max_)] sizeOf65 fun _ z0 => nilO ⟨dA, ?_⟩
  refine qU [13] <| qN <| tN <| seqE <| sR <| pu2 <| nT <| cN ((ofV a0.v e0 (⟨0, 0, 0⟩ : Shape)).2) 0 (fun e6 => ?_) (fun e6 => ?_)
  rotate_left
  ·refine seqE ?_
   obtain ⟨f6, y2, z2, x1, g6, h6⟩ := RdT.elem v0 (i : Int)
   rw [Int.toNat_natCast] at x1
   obtain rfl : b0 = f6 := Option.some.inj (q0.symm.trans x1)
   have hox_x_53 : (p.inputs.n : Int) <= b0 /\ b0 < (p.inputs.n : Int) + (p.stages.n : Int) := by have h := hordr b0 (List.mem_of_getElem? x1); simp only [Job.v] at h; omega
   refine drawE [] [(3, ⟨y2, z2, none⟩, I b0)] [(true, [0, 1]), (true, [2]), (true, [4, 5]), (true, [3]), (true, [6, 7])] rfl kr ⟨.inr ((g6.up 4 rfl).cell z0 (k := 0) rfl), trivial⟩ ?_
   have i6 := z0.drew
   refine wU [0, 1] <| wY (.pointer (some ⟨y2, z2, none⟩)) rfl (fun w _ => Y_idx (a := t0) (i := (i : Int)) (len := r0) (cap := u0) rfl runUnderlying22 sizeOf3 kr kr h6) <| wU [4, 5] <| wLd (I b0) 0 isAgg3 <| wU [6, 7] <| wN <| tN <| retE <| tR <| tK <| tR <| tK <| retT [nS, I b0, I ((ofV a0.v e0 (⟨0, 0, 0⟩ : Shape)).2)] ?_
   have hk0 : shpV p.v = shpGo (p.inputs.n : Int) (p.stages.l.map Stage.v) ((ordV p.v).1) zs := by unfold shpV; rw [if_pos ‹_›, if_pos (by exact hall)]; rw [hzs, <- hms, <- hmi]; rfl
   have hstg : stgAt (p.stages.l.map Stage.v) (p.inputs.n : Int) b0 = a0.v := by unfold stgAt; rw [map_at (f := Stage.v) s0]; rfl
   have hsa3 : shpAt ys a0.v.a = e0 := by unfold shpAt; rw [show ys[a0.v.a.toNat]? = some e0 from o1]; rfl
   have hsb3 : (if twoP a0.v then shpAt ys a0.v.b else ⟨0, 0, 0⟩) = (⟨0, 0, 0⟩ : Shape) := by rw [if_neg (by unfold twoP; simp only [Stage.v]; assumption)]
   have hst : shpStep (p.inputs.n : Int) (p.stages.l.map Stage.v) b0 ys = ofV a0.v e0 (⟨0, 0, 0⟩ : Shape) := by unfold shpStep; rw [hstg, hsa3, hsb3]
   have hk : shpV p.v = ([], b0, (ofV a0.v e0 (⟨0, 0, 0⟩ : Shape)).2) := by rw [hk0, hS2, drop_at q0, shpGo, hst, if_neg ‹_›]
   have j6 := (i6.drops [0, 0, 0, 0, 0, 0])
   have k6 : Sat W _ ([] :: H :: F) := Sat.nilc j6
   have hl : ([] : List Shape) = (shpV p.v).1 := (by rw [hk])
   have hrd := RdT.nil (enc := encShape) (sz := 3) fR [[]]
   rw [hl] at hrd
   exact ⟨_, _, _, _, (by rw [hk]; rfl), hrd, k6⟩
  refine kT ?_
  obtain ⟨l6, a3, b3, y1, m6, n6⟩ := RdT.elem v0 (i : Int)
  rw [Int.toNat_natCast] at y1
  obtain rfl : b0 = l6 := Option.some.inj (q0.symm.trans y1)
  have hox_x_53 : (p.inputs.n : Int) <= b0 /\ b0 < (p.inputs.n : Int) + (p.stages.n : Int) := by have h := hordr b0 (List.mem_of_getElem? y1); simp only [Job.v] at h; omega
  obtain ⟨o6, p6, q6, r6, h9, s6, t6⟩ := OwnT.elem hOys b0
  refine drawE [7] [(4, ⟨a3, b3, none⟩, I b0), (5, ⟨w1, 0, none⟩, I ((ofV a0.v e0 (⟨0, 0, 0⟩ : Shape)).1.w)), (5, ⟨w1, 1, none⟩, I ((ofV a0.v e0 (⟨0, 0, 0⟩ : Shape)).1.h)), (5, ⟨w1, 2, none⟩, I ((ofV a0.v e0 (⟨0, 0, 0⟩ : Shape)).1.max_))] [(true, [0, 1, 2]), (true, [3]), (true, [4]), (true, [5]), (true, [6]), (false, [7])] rfl kr ⟨.inr ((m6.up 4 rfl).cell z0 (k := 0) rfl), cI z0 0, cI z0 0, cI z0 0, trivial⟩ ?_
  have u6 := z0.drew
  refine wU [0, 1, 2] <| wY (.pointer (some ⟨a3, b3, none⟩)) rfl (fun w _ => Y_idx (a := t0) (i := (i : Int)) (len := r0) (cap := u0) rfl runUnderlying22 sizeOf3 kr kr n6) <| wLd (I b0) 0 isAgg3 <| wY (.agg #[I ((ofV a0.v e0 (⟨0, 0, 0⟩ : Shape)).1.w), I ((ofV a0.v e0 (⟨0, 0, 0⟩ : Shape)).1.h), I ((ofV a0.v e0 (⟨0, 0, 0⟩ : Shape)).1.max_)]) rfl (fun w hF => Y_loadF rfl (isAgg65 w) (sizeOf65 w) kr rfl ⟨hF 1 _ _ rfl, hF 2 _ _ rfl, hF 3 _ _ rfl, trivial⟩) <| wY (.pointer (some ⟨p6, q6 + (b0).toNat * 3, none⟩)) rfl (fun w _ => Y_idx (a := ays) (i := b0) (len := nys) (cap := kys) rfl runUnderlying82 sizeOf65 kr kr s6) <| wO rfl ?_
  refine sStF u6 hOys t6 3 (b0).toNat 0 o6 (⟨(ofV a0.v e0 (⟨0, 0, 0⟩ : Shape)).1.w, (ofV a0.v e0 (⟨0, 0, 0⟩ : Shape)).1.h, (ofV a0.v e0 (⟨0, 0, 0⟩ : Shape)).1.max_⟩ : Shape) r6 (.agg #[I ((ofV a0.v e0 (⟨0, 0, 0⟩ : Shape)).1.w), I ((ofV a0.v e0 (⟨0, 0, 0⟩ : Shape)).1.h), I ((ofV a0.v e0 (⟨0, 0, 0⟩ : Shape)).1.max_)]) [I ((ofV a0.v e0 (⟨0, 0, 0⟩ : Shape)).1.w), I ((ofV a0.v e0 (⟨0, 0, 0⟩ : Shape)).1.h), I ((ofV a0.v e0 (⟨0, 0, 0⟩ : Shape)).1.max_)] sizeOf65 fun _ v6 w6 x6 => nilO ⟨dA, ?_⟩
  refine wN <| bN <| tN <| rE <| pu1 <| sAdd (i : Int) 1 <| pu1 <| nT ?_
  have hstg : stgAt (p.stages.l.map Stage.v) (p.inputs.n : Int) b0 = a0.v := by unfold stgAt; rw [map_at (f := Stage.v) s0]; rfl
  have hsa3 : shpAt ys a0.v.a = e0 := by unfold shpAt; rw [show ys[a0.v.a.toNat]? = some e0 from o1]; rfl
  have hsb3 : (if twoP a0.v then shpAt ys a0.v.b else ⟨0, 0, 0⟩) = (⟨0, 0, 0⟩ : Shape) := by rw [if_neg (by unfold twoP; simp only [Stage.v]; assumption)]
  have hst : shpStep (p.inputs.n : Int) (p.stages.l.map Stage.v) b0 ys = ofV a0.v e0 (⟨0, 0, 0⟩ : Shape) := by unfold shpStep; rw [hstg, hsa3, hsb3]
  exact ⟨(i + 1, (ys.set ((b0).toNat) (⟨(ofV a0.v e0 (⟨0, 0, 0⟩ : Shape)).1.w, (ofV a0.v e0 (⟨0, 0, 0⟩ : Shape)).1.h, (ofV a0.v e0 (⟨0, 0, 0⟩ : Shape)).1.max_⟩ : Shape)), ays, nys, kys, v6), od, alA, (x6.drops [0, 0, 0]), om, by rw [hS2, drop_at q0, shpGo, hst, if_pos ‹_›], by simp; omega, w6⟩
 refine qO rfl <| sAlloc v2 zeroValue65 fun z1 _ k0 => nilO ⟨⟨cI k0 2, cI k0 2, cI k0 2, cI k0 2, cI k0 2, cI k0 2, cI k0 2, cI k0 2, cI k0 2, cI k0 2, cI k0 2, cI k0 2, cI k0 2, cI k0 2, cI k0 2, cI k0 2, cI k0 2, cI k0 2, cI k0 2, .inr ((e1.up 3 rfl).cell k0 (k := 0) rfl), .inr ((e1.up 3 rfl).cell k0 (k := 1) rfl), .inr ((e1.up 3 rfl).cell k0 (k := 2) rfl), cI k0 1, cI k0 1, cI k0 1, trivial⟩, ?_⟩
 refine qO rfl <| cR call77 (r15_of a0 e0 (⟨0, 0, 0⟩ : Shape) ((hp.stagesD a0 (List.mem_of_getElem? s0)).of_mem (mem_flat1 6 (by rfl))) k0.flat) fun _ c3 => nilO ⟨⟨dI, dI, dI, dI, dI, dI, dI, dI, dI, dI, dI, dI, dI, dI, dI, dI, dI, dI, cI c3 2, dI, dI, dI, dI, dI, dI, trivial⟩, ?_⟩
 refine qU [8] <| qU [9] <| qU [10] <| qO rfl <| sT c3 0 0 (.agg #[I ((ofV a0.v e0 (⟨0, 0, 0⟩ : Shape)).1.w), I ((ofV a0.v e0 (⟨0, 0, 0⟩ : Shape)).1.h), I ((ofV a0.v e0 (⟨0, 0, 0⟩ : Shape)).1.max_)]) [I ((ofV a0.v e0 (⟨0, 0, 0⟩ : Shape)).1.w), I ((ofV a0.v e0 (⟨0, 0, 0⟩ : Shape)).1.h), I ((ofV a0.v e0 (⟨0, 0, 0⟩ : Shape)).1.max_)] #[I ((ofV a0.v e0 (⟨0, 0, 0⟩ : Shape)).1.w), I ((ofV a0.v e0 (⟨0, 0, 0⟩ : Shape)).1.h), I ((ofV a0.v e0 (⟨0, 0, 0⟩ : Shape)).1.max_)] sizeOf65 fun _ a1 => nilO ⟨dA, ?_⟩
 refine qU [13] <| qN <| tN <| seqE <| sR <| pu2 <| nT <| cN ((ofV a0.v e0 (⟨0, 0, 0⟩ : Shape)).2) 0 (fun z6 => ?_) (fun z6 => ?_)
 rotate_left
 ·refine seqE ?_
  obtain ⟨a7, d3, e3, a2, b7, c7⟩ := RdT.elem v0 (i : Int)
  rw [Int.toNat_natCast] at a2
  obtain rfl : b0 = a7 := Option.some.inj (q0.symm.trans a2)
  have hox_x_53 : (p.inputs.n : Int) <= b0 /\ b0 < (p.inputs.n : Int) + (p.stages.n : Int) := by have h := hordr b0 (List.mem_of_getElem? a2); simp only [Job.v] at h; omega
  refine drawE [] [(3, ⟨d3, e3, none⟩, I b0)] [(true, [0, 1]), (true, [2]), (true, [4, 5]), (true, [3]), (true, [6, 7])] rfl kr ⟨.inr ((b7.up 4 rfl).cell a1 (k := 0) rfl), trivial⟩ ?_
  have d7 := a1.drew
  refine wU [0, 1] <| wY (.pointer (some ⟨d3, e3, none⟩)) rfl (fun w _ => Y_idx (a := t0) (i := (i : Int)) (len := r0) (cap := u0) rfl runUnderlying22 sizeOf3 kr kr c7) <| wU [4, 5] <| wLd (I b0) 0 isAgg3 <| wU [6, 7] <| wN <| tN <| retE <| tR <| tK <| tR <| tK <| retT [nS, I b0, I ((ofV a0.v e0 (⟨0, 0, 0⟩ : Shape)).2)] ?_
  have hk0 : shpV p.v = shpGo (p.inputs.n : Int) (p.stages.l.map Stage.v) ((ordV p.v).1) zs := by unfold shpV; rw [if_pos ‹_›, if_pos (by exact hall)]; rw [hzs, <- hms, <- hmi]; rfl
  have hstg : stgAt (p.stages.l.map Stage.v) (p.inputs.n : Int) b0 = a0.v := by unfold stgAt; rw [map_at (f := Stage.v) s0]; rfl
  have hsa3 : shpAt ys a0.v.a = e0 := by unfold shpAt; rw [show ys[a0.v.a.toNat]? = some e0 from o1]; rfl
  have hsb3 : (if twoP a0.v then shpAt ys a0.v.b else ⟨0, 0, 0⟩) = (⟨0, 0, 0⟩ : Shape) := by rw [if_neg (by unfold twoP; simp only [Stage.v]; assumption)]
  have hst : shpStep (p.inputs.n : Int) (p.stages.l.map Stage.v) b0 ys = ofV a0.v e0 (⟨0, 0, 0⟩ : Shape) := by unfold shpStep; rw [hstg, hsa3, hsb3]
  have hk : shpV p.v = ([], b0, (ofV a0.v e0 (⟨0, 0, 0⟩ : Shape)).2) := by rw [hk0, hS2, drop_at q0, shpGo, hst, if_neg ‹_›]
  have e7 := (d7.drops [0, 0, 0, 0, 0, 0])
  have f7 : Sat W _ ([] :: H :: F) := Sat.nilc e7
  have hl : ([] : List Shape) = (shpV p.v).1 := (by rw [hk])
  have hrd := RdT.nil (enc := encShape) (sz := 3) fR [[]]
  rw [hl] at hrd
  exact ⟨_, _, _, _, (by rw [hk]; rfl), hrd, f7⟩
 refine kT ?_
 obtain ⟨g7, f3, g3, b2, h7, i7⟩ := RdT.elem v0 (i : Int)
 rw [Int.toNat_natCast] at b2
 obtain rfl : b0 = g7 := Option.some.inj (q0.symm.trans b2)
 have hox_x_53 : (p.inputs.n : Int) <= b0 /\ b0 < (p.inputs.n : Int) + (p.stages.n : Int) := by have h := hordr b0 (List.mem_of_getElem? b2); simp only [Job.v] at h; omega
 obtain ⟨j7, k7, l7, m7, m9, n7, o7⟩ := OwnT.elem hOys b0
 refine drawE [7] [(4, ⟨f3, g3, none⟩, I b0), (5, ⟨z1, 0, none⟩, I ((ofV a0.v e0 (⟨0, 0, 0⟩ : Shape)).1.w)), (5, ⟨z1, 1, none⟩, I ((ofV a0.v e0 (⟨0, 0, 0⟩ : Shape)).1.h)), (5, ⟨z1, 2, none⟩, I ((ofV a0.v e0 (⟨0, 0, 0⟩ : Shape)).1.max_))] [(true, [0, 1, 2]), (true, [3]), (true, [4]), (true, [5]), (true, [6]), (false, [7])] rfl kr ⟨.inr ((h7.up 4 rfl).cell a1 (k := 0) rfl), cI a1 0, cI a1 0, cI a1 0, trivial⟩ ?_
 have p7 := a1.drew
 refine wU [0, 1, 2] <| wY (.pointer (some ⟨f3, g3, none⟩)) rfl (fun w _ => Y_idx (a := t0) (i := (i : Int)) (len := r0) (cap := u0) rfl runUnderlying22 sizeOf3 kr kr i7) <| wLd (I b0) 0 isAgg3 <| wY (.agg #[I ((ofV a0.v e0 (⟨0, 0, 0⟩ : Shape)).1.w), I ((ofV a0.v e0 (⟨0, 0, 0⟩ : Shape)).1.h), I ((ofV a0.v e0 (⟨0, 0, 0⟩ : Shape)).1.max_)]) rfl (fun w hF => Y_loadF rfl (isAgg65 w) (sizeOf65 w) kr rfl ⟨hF 1 _ _ rfl, hF 2 _ _ rfl, hF 3 _ _ rfl, trivial⟩) <| wY (.pointer (some ⟨k7, l7 + (b0).toNat * 3, none⟩)) rfl (fun w _ => Y_idx (a := ays) (i := b0) (len := nys) (cap := kys) rfl runUnderlying82 sizeOf65 kr kr n7) <| wO rfl ?_
 refine sStF p7 hOys o7 3 (b0).toNat 0 j7 (⟨(ofV a0.v e0 (⟨0, 0, 0⟩ : Shape)).1.w, (ofV a0.v e0 (⟨0, 0, 0⟩ : Shape)).1.h, (ofV a0.v e0 (⟨0, 0, 0⟩ : Shape)).1.max_⟩ : Shape) m7 (.agg #[I ((ofV a0.v e0 (⟨0, 0, 0⟩ : Shape)).1.w), I ((ofV a0.v e0 (⟨0, 0, 0⟩ : Shape)).1.h), I ((ofV a0.v e0 (⟨0, 0, 0⟩ : Shape)).1.max_)]) [I ((ofV a0.v e0 (⟨0, 0, 0⟩ : Shape)).1.w), I ((ofV a0.v e0 (⟨0, 0, 0⟩ : Shape)).1.h), I ((ofV a0.v e0 (⟨0, 0, 0⟩ : Shape)).1.max_)] sizeOf65 fun _ q7 r7 s7 => nilO ⟨dA, ?_⟩
 refine wN <| bN <| tN <| rE <| pu1 <| sAdd (i : Int) 1 <| pu1 <| nT ?_
 have hstg : stgAt (p.stages.l.map Stage.v) (p.inputs.n : Int) b0 = a0.v := by unfold stgAt; rw [map_at (f := Stage.v) s0]; rfl
 have hsa3 : shpAt ys a0.v.a = e0 := by unfold shpAt; rw [show ys[a0.v.a.toNat]? = some e0 from o1]; rfl
 have hsb3 : (if twoP a0.v then shpAt ys a0.v.b else ⟨0, 0, 0⟩) = (⟨0, 0, 0⟩ : Shape) := by rw [if_neg (by unfold twoP; simp only [Stage.v]; assumption)]
 have hst : shpStep (p.inputs.n : Int) (p.stages.l.map Stage.v) b0 ys = ofV a0.v e0 (⟨0, 0, 0⟩ : Shape) := by unfold shpStep; rw [hstg, hsa3, hsb3]
 exact ⟨(i + 1, (ys.set ((b0).toNat) (⟨(ofV a0.v e0 (⟨0, 0, 0⟩ : Shape)).1.w, (ofV a0.v e0 (⟨0, 0, 0⟩ : Shape)).1.h, (ofV a0.v e0 (⟨0, 0, 0⟩ : Shape)).1.max_⟩ : Shape)), ays, nys, kys, q7), od, alA, (s7.drops [0, 0, 0]), om, by rw [hS2, drop_at q0, shpGo, hst, if_pos ‹_›], by simp; omega, r7⟩
theorem r17_checkj (p:Job) (hp:Job.Ok [H] p) (hb:p.inputs.n<=1000000/\p.stages.n<=1000000/\p.outputs.n<=1000000) (hS:Sat W w (H::F)):
  Ro prog 45 #[.agg (encJob p).toArray] (.tuple #[I ((shpV p.v).2.1),I ((shpV p.v).2.2)]) W w (H::F):=by
 have hl_p_inputs:=hp.inputs.le;have hn_p_inputs:=hp.inputs.len
 have hl_p_stages:=hp.stages.le;have hn_p_stages:=hp.stages.len
 have hl_p_outputs:=hp.outputs.le;have hn_p_outputs:=hp.outputs.len
 refine callsA 15 func45 rfl<|sR<|sBox hS (.agg (encJob p).toArray) (encJob p).toArray fun _ _ a0=>pu2<|zS<|lA a0 0 0 4 (isAgg28 _) (sizeOf28 _)<|cX call96 (r17_shapes p (hp.of_mem (mem_flat1 1 (by rfl))) (od) a0.flat) ?_
 rintro _ _ ⟨_,_,_,_,rfl,b0,c0⟩
 have d0:=c0.unflat1
 have hn_az_7:=b0.len;have hl_az_7:=b0.le
 exact pu7<|zS<|pu4<|zE<|retT [I ((shpV p.v).2.1),I ((shpV p.v).2.2)]<|⟨rfl,(d0.drops [0,0])⟩
end Go.Proofs.YtmlhcafjelkjfaaGreat
