import Derived.Test.YtmlhcafjelkjfaaGreatP3Ab
import Derived.WalkKit
import Derived.Deep.Quiet
import Derived.KernelRfl
import Derived.Laws.BytesString
import Derived.Laws.Shifts
import Derived.Laws.IdiomStrings
import Derived.Test.YtmlhcafjelkjfaaGreatProg
import Derived.Test.YtmlhcafjelkjfaaGreatP3RefS
namespace Go.Proofs.YtmlhcafjelkjfaaGreat
open Go Go.E Go.Proofs.Tryz
set_option linter.all false
set_option maxRecDepth 100000
set_option maxHeartbeats 2000000
variable {W w:World} {H:Chunk} {F:List Chunk}
def srcs (s:StageV):List Int:=if twoP s then [s.a,s.b] else [s.a]
theorem srcs_len (s:StageV):1<=(srcs s).length/\(srcs s).length<=2:=by unfold srcs;split<;>simp
def inR (n:Int) (l:List Int):Bool:=l.all fun x=>decide (0<=x/\x<n)
def chkCode (j:JobV):Int:=
  if 1<=j.inputs.length/\1<=j.stages.length/\j.inputs.length+j.stages.length<=16/\1<=j.outputs.length/\j.outputs.length<=16 then (if 0<=j.priority/\j.priority<4 then
    (if j.stages.all (fun s=>inR (j.inputs.length+j.stages.length) (srcs s))=true then (if inR (j.inputs.length+j.stages.length) j.outputs=true then 0 else 6) else 6) else 2) else 5
theorem r15_sources (q:Stage) (hq:Stage.Ok [H] q) (hS:Sat W w (H::F)):
  Calls prog 99 #[.agg (encStage q).toArray] w fun e w'=>∃(az:Option Addr) (nz kz:Nat) (G:Chunk),e= .returned (.slice az nz kz)/\RdT Go.E.encI 1 [G] az nz kz (srcs q.v)/\Sat W w' (G::H::F):=by
 have hl_q_weights:=hq.weights.le;have hn_q_weights:=hq.weights.len
 have hl_q_row:=hq.row.le;have hn_q_row:=hq.row.len
 have hl_q_col:=hq.col.le;have hn_q_col:=hq.col.len
 have hl_q_x:=hq.x.le;have hn_q_x:=hq.x.len
 have hl_q_y:=hq.y.le;have hn_q_y:=hq.y.len
 have hl_q_ops:=hq.ops.le;have hn_q_ops:=hq.ops.len
 refine callsA 13 func99 rfl<|sR<|sBox hS (.agg (encStage q).toArray) (encStage q).toArray fun _ _ b0=>pu1<|zQ<|lA b0 0 0 18 (isAgg53 _) (sizeOf53 _)<|cR call47 (r15_two q (hq.of_mem (mem_flat1 1 (by rfl))) b0.flat) fun _ a0=>nT<|cD (q.kind=6/\¬q.b=-1) (fun e0=>?_) (fun e0=>?_)
 rotate_left
 ·refine kS<|pu1<|sL a0 0 1 (I q.a) (isAgg3 _)<|sBS a0 #[I q.a] runUnderlying22 sizeOf3 zeroValue3 fun c0 _ f0=>pu1<|zE<|retT [.slice (At c0 0) 1 1] ?_
  have g0:=(f0.dropAt 1 rfl)
  have hl:[q.a]=srcs q.v:=(by unfold srcs;rw [if_neg (by unfold twoP;simp only [Stage.v];omega)];rfl)
  have hrd:=(RdT.blk (cs:=[[(c0, .cells #[I q.a] 3 (0,0))]]) (enc:=Go.E.encI) (sz:=1) (xs:=[q.a]) fR 1 0 rfl rfl rfl om)
  rw [hl] at hrd
  exact ⟨_,_,_,_,rfl,hrd,g0⟩
 refine sR<|pu1<|sL a0 0 1 (I q.a) (isAgg3 _)<|pu1<|sL a0 0 2 (I q.b) (isAgg3 _)<|sBS a0 #[I q.a,I q.b] runUnderlying22 sizeOf3 zeroValue3 fun d0 _ h0=>pu1<|zR<|retT [.slice (At d0 0) 2 2] ?_
 have i0:=(h0.dropAt 1 rfl)
 have hl:[q.a,q.b]=srcs q.v:=(by unfold srcs;rw [if_pos (by unfold twoP;simp only [Stage.v];omega)];rfl)
 have hrd:=(RdT.blk (cs:=[[(d0, .cells #[I q.a,I q.b] 3 (0,0))]]) (enc:=Go.E.encI) (sz:=1) (xs:=[q.a,q.b]) fR 2 0 rfl rfl rfl om)
 rw [hl] at hrd
 exact ⟨_,_,_,_,rfl,hrd,i0⟩
theorem r17_has (ax:Option Addr) (nx kx:Nat) (x:List Int) (y:Int) (hx:RdT Go.E.encI 1 [H] ax nx kx x) (hS:Sat W w (H::F)):
  Ro prog 98 #[.slice ax nx kx,I y] (.bool (decide (y∈x))) W w (H::F):=by
 have hl_x:=hx.le;have hn_x:=hx.len
 refine callsA 18 func98 rfl<|sR<|pu1<|zQ<|pu1<|nT<|blockE<|loopA (γ:=Nat) (fun i=>[(0, .slice ax nx kx),(1,I y),(5,I (i:Int))]) (fun i w=>Sat W w (H::F)/\i<=nx/\(¬y∈x.take i)) (fun i=>nx-i) 0 ⟨hS,om,by simp⟩ ?_
 rintro i ρ _ ⟨a0,hi,hE⟩
 refine seqE<|sR<|pu4<|nT<|cD ((i:Int)<(nx:Int)) (fun d0=>?_) (fun d0=>?_)
 rotate_left
 ·refine exitE<|xB<|tN<|sR<|pu1<|zE<|retT [.bool false] ?_
  exact ⟨by rw [decide_eq_false (show ¬y∈x from by rw [List.take_of_length_le om] at hE;exact hE)];rfl,a0⟩
 refine kT<|seqE<|blockE<|sR<|pu2<|sIdx hx (i:Int) runUnderlying22 sizeOf3 fun b0 _ _ c0 e0=>?_
 rw [Int.toNat_natCast] at c0
 refine sLp a0 (e0.up 0 rfl) 0 (I b0) (isAgg3 _)<|pu2<|nT<|cE b0 y (fun f0=>?_) (fun f0=>?_)
 ·exact sR<|pu1<|zB<|tR<|tK<|retT [.bool true]<|⟨by rw [decide_eq_true (show y∈x from (by omega:b0=y)▸List.mem_of_getElem? c0)];rfl,a0⟩
 refine skipE<|bN<|tN<|rE<|pu1<|sAdd (i:Int) 1<|pu1<|nT ?_
 exact ⟨i+1,od,alA,a0,om,by rw [take_succ_at c0];simp only [List.mem_append,List.mem_singleton,not_or];exact ⟨hE,om⟩⟩
theorem r17_check (p:Job) (hp:Job.Ok [H] p) (hb:p.inputs.n<=1000000/\p.stages.n<=1000000/\p.outputs.n<=1000000) (hS:Sat W w (H::F)):
  Ro prog 97 #[.agg (encJob p).toArray] (I (chkCode p.v)) W w (H::F):=by
 have hl_p_inputs:=hp.inputs.le;have hn_p_inputs:=hp.inputs.len
 have hl_p_stages:=hp.stages.le;have hn_p_stages:=hp.stages.len
 have hl_p_outputs:=hp.outputs.le;have hn_p_outputs:=hp.outputs.len
 have hmi:(p.inputs.l.map Plane.v).length=p.inputs.n:=by simp [hn_p_inputs]
 have hms:(p.stages.l.map Stage.v).length=p.stages.n:=by simp [hn_p_stages]
 refine callsA 105 func97 rfl<|sR<|sBox hS (.agg (encJob p).toArray) (encJob p).toArray fun c0 _ a0=>pu1<|zS<|pu1<|sL a0 0 0 (.slice p.inputs.a p.inputs.n p.inputs.k) (isAgg25 _)<|pu2<|sL a0 0 1 (.slice p.stages.a p.stages.n p.stages.k) (isAgg26 _)<|pu1<|sAdd (p.inputs.n:Int) (p.stages.n:Int)<|pu1<|nT<|seqE<|blockE<|cutA (γ:=Unit) (fun _=>[(1,Pt c0 0),(3,I ((p.inputs.n:Int)+(p.stages.n:Int))),(15, .bool (decide (¬(1<=p.inputs.n/\1<=p.stages.n/\p.inputs.n+p.stages.n<=16/\1<=p.outputs.n/\p.outputs.n<=16))))]) (fun _ w=>Sat W w ([(c0, .cells (encJob p).toArray 28 (0,0))]::H::F)) ?_ ?_
 ·refine rE<|pu1<|sL a0 0 0 (.slice p.inputs.a p.inputs.n p.inputs.k) (isAgg25 _)<|pu3<|sE 20 (p.inputs.n:Int) 0 (fun q0=>?_) (fun q0=>?_)
  ·exact pu16<|pu6<|nT<|⟨(),⟨kr,kr,(Eq.trans (b:= .bool true) kr (congrArg Value.bool (decide_eq_true (p:=¬(1<=p.inputs.n/\1<=p.stages.n/\p.inputs.n+p.stages.n<=16/\1<=p.outputs.n/\p.outputs.n<=16)) om).symm)),trivial⟩,a0⟩
  refine pu1<|gY<|sL a0 0 1 (.slice p.stages.a p.stages.n p.stages.k) (isAgg26 _)<|pu4<|sE 26 (p.stages.n:Int) 0 (fun r0=>?_) (fun r0=>?_)
  ·exact pu16<|nT<|⟨(),⟨kr,kr,(Eq.trans (b:= .bool true) kr (congrArg Value.bool (decide_eq_true (p:=¬(1<=p.inputs.n/\1<=p.stages.n/\p.inputs.n+p.stages.n<=16/\1<=p.outputs.n/\p.outputs.n<=16)) om).symm)),trivial⟩,a0⟩
  refine pu4<|sD 30 (((p.inputs.n:Int)+(p.stages.n:Int))>16) (fun s0=>?_) (fun s0=>?_)
  ·exact pu12<|nT<|⟨(),⟨kr,kr,(Eq.trans (b:= .bool true) kr (congrArg Value.bool (decide_eq_true (p:=¬(1<=p.inputs.n/\1<=p.stages.n/\p.inputs.n+p.stages.n<=16/\1<=p.outputs.n/\p.outputs.n<=16)) om).symm)),trivial⟩,a0⟩
  refine pu1<|gY<|sL a0 0 2 (.slice p.outputs.a p.outputs.n p.outputs.k) (isAgg22 _)<|pu4<|sE 36 (p.outputs.n:Int) 0 (fun t0=>?_) (fun t0=>?_)
  ·exact pu6<|nT<|⟨(),⟨kr,kr,(Eq.trans (b:= .bool true) kr (congrArg Value.bool (decide_eq_true (p:=¬(1<=p.inputs.n/\1<=p.stages.n/\p.inputs.n+p.stages.n<=16/\1<=p.outputs.n/\p.outputs.n<=16)) om).symm)),trivial⟩,a0⟩
  exact pu1<|gY<|sL a0 0 2 (.slice p.outputs.a p.outputs.n p.outputs.k) (isAgg22 _)<|pu4<|nT<|⟨(),⟨kr,kr,(Eq.trans (b:= .bool (decide ((p.outputs.n:Int)>16))) kr (congrArg Value.bool bm)),trivial⟩,a0⟩
 rintro _ ρ _ e0
 refine cD (¬(1<=p.inputs.n/\1<=p.stages.n/\p.inputs.n+p.stages.n<=16/\1<=p.outputs.n/\p.outputs.n<=16)) (fun u0=>?_) (fun u0=>?_)
 ·refine sR<|pu1<|zB<|retT [I 5] ?_
  have v0:=(e0.dropAt 0 rfl)
  have hk:chkCode p.v=5:=by unfold chkCode;rw [if_neg (by simp only [Job.v];omega)]
  exact ⟨by rw [hk];rfl,v0⟩
 refine sR<|pu1<|sL e0 0 3 (I p.priority) (isAgg3 _)<|pu2<|sD 46 (p.priority<0) (fun w0=>?_) (fun w0=>?_)
 ·refine pu5<|zC<|pu1<|zB<|retT [I 2] ?_
  have x0:=(e0.dropAt 0 rfl)
  have hk:chkCode p.v=2:=by unfold chkCode;rw [if_pos (by simp only [Job.v];omega),if_neg (by simp only [Job.v];omega)]
  exact ⟨by rw [hk];rfl,x0⟩
 refine pu1<|gY<|sL e0 0 3 (I p.priority) (isAgg3 _)<|pu3<|nT<|cD (p.priority>=4) (fun y0=>?_) (fun y0=>?_)
 ·refine sR<|pu1<|zB<|retT [I 2] ?_
  have z0:=(e0.dropAt 0 rfl)
  have hk:chkCode p.v=2:=by unfold chkCode;rw [if_pos (by simp only [Job.v];omega),if_neg (by simp only [Job.v];omega)]
  exact ⟨by rw [hk];rfl,z0⟩
 refine skipE<|bN<|tN<|seqE<|sR<|pu1<|nT<|blockE<|loopA (γ:=Nat) (fun i=>[(1,Pt c0 0),(3,I ((p.inputs.n:Int)+(p.stages.n:Int))),(4,I (i:Int))]) (fun i w=>Sat W w ([(c0, .cells (encJob p).toArray 28 (0,0))]::H::F)/\i<=p.stages.n/\(((p.stages.l.map Stage.v).take i).all (fun s=>inR ((p.inputs.l.map Plane.v).length+(p.stages.l.map Stage.v).length:Int) (srcs s))=true)) (fun i=>p.stages.n-i) 0 ⟨e0,om,by rfl⟩ ?_
 rintro i ρ _ ⟨g0,hi,hE⟩
 refine seqE<|sR<|pu2<|sL g0 0 1 (.slice p.stages.a p.stages.n p.stages.k) (isAgg26 _)<|pu2<|nT<|cD ((i:Int)<(p.stages.n:Int)) (fun a1=>?_) (fun a1=>?_)
 rotate_left
 ·refine exitE<|xB<|tN<|seqE<|seqE ?_
  have hst:(p.stages.l.map Stage.v).all (fun s=>inR ((p.inputs.l.map Plane.v).length+(p.stages.l.map Stage.v).length:Int) (srcs s))=true:=all_of_take hE om
  refine rE<|pu1<|nT<|blockE<|loopA (γ:=Nat) (fun m=>[(1,Pt c0 0),(3,I ((p.inputs.n:Int)+(p.stages.n:Int))),(7,I (m:Int))]) (fun m w=>Sat W w ([(c0, .cells (encJob p).toArray 28 (0,0))]::H::F)/\m<=p.outputs.n/\(inR ((p.inputs.l.map Plane.v).length+(p.stages.l.map Stage.v).length:Int) (p.outputs.l.take m)=true)) (fun m=>p.outputs.n-m) 0 ⟨g0,om,by rfl⟩ ?_
  rintro m ρ _ ⟨b0,hm,hF⟩
  refine seqE<|sR<|pu2<|sL b0 0 2 (.slice p.outputs.a p.outputs.n p.outputs.k) (isAgg22 _)<|pu2<|nT<|cD ((m:Int)<(p.outputs.n:Int)) (fun b1=>?_) (fun b1=>?_)
  rotate_left
  ·refine exitE<|xB<|tN<|sR<|pu1<|zE<|retT [I 0] ?_
   have c1:=(b0.dropAt 0 rfl)
   have ho:=all_of_take hF om
   have hk:chkCode p.v=0:=by unfold chkCode;rw [if_pos (by simp only [Job.v];omega),if_pos (by simp only [Job.v];omega),if_pos (by exact hst),if_pos (by exact ho)]
   exact ⟨by rw [hk];rfl,c1⟩
  refine kT<|seqE<|blockE<|sR<|pu1<|sL b0 0 2 (.slice p.outputs.a p.outputs.n p.outputs.k) (isAgg22 _)<|pu1<|sIdx hp.outputs (m:Int) runUnderlying22 sizeOf3 fun h0 _ _ i0 d1=>?_
  rw [Int.toNat_natCast] at i0
  refine sLp b0 (d1.up 1 rfl) 0 (I h0) (isAgg3 _)<|pu2<|sD 96 (h0<0) (fun e1=>?_) (fun e1=>?_)
  ·refine pu8<|zC<|pu1<|zB<|tR<|tK<|retT [I 6] ?_
   have f1:=(b0.dropAt 0 rfl)
   have ho:=all_false_at (p:=fun x=>decide (0<=x/\x<((p.inputs.l.map Plane.v).length+(p.stages.l.map Stage.v).length:Int))) i0 (decide_eq_false om)
   have hk:chkCode p.v=6:=by unfold chkCode;rw [if_pos (by simp only [Job.v];omega),if_pos (by simp only [Job.v];omega),if_pos (by exact hst),if_neg (by exact fun h=>Bool.false_ne_true (ho.symm.trans h))]
   exact ⟨by rw [hk];rfl,f1⟩
  refine pu1<|gY<|sL b0 0 2 (.slice p.outputs.a p.outputs.n p.outputs.k) (isAgg22 _)<|pu1<|gY<|sIdx hp.outputs (m:Int) runUnderlying22 sizeOf3 fun g1 _ _ o0 h1=>?_
  rw [Int.toNat_natCast] at o0
  obtain rfl:h0=g1:=Option.some.inj (i0.symm.trans o0)
  refine gY<|sLp b0 (h1.up 1 rfl) 0 (I h0) (isAgg3 _)<|pu3<|nT<|cD (h0>=((p.inputs.n:Int)+(p.stages.n:Int))) (fun i1=>?_) (fun i1=>?_)
  rotate_left
  ·exact skipE<|bN<|tN<|rE<|pu1<|sAdd (m:Int) 1<|pu1<|nT<|⟨m+1,od,alA,b0,om,all_succ hF i0 (decide_eq_true om)⟩
  refine sR<|pu1<|zB<|tR<|tK<|retT [I 6] ?_
  have j1:=(b0.dropAt 0 rfl)
  have ho:=all_false_at (p:=fun x=>decide (0<=x/\x<((p.inputs.l.map Plane.v).length+(p.stages.l.map Stage.v).length:Int))) i0 (decide_eq_false om)
  have hk:chkCode p.v=6:=by unfold chkCode;rw [if_pos (by simp only [Job.v];omega),if_pos (by simp only [Job.v];omega),if_pos (by exact hst),if_neg (by exact fun h=>Bool.false_ne_true (ho.symm.trans h))]
  exact ⟨by rw [hk];rfl,j1⟩
 refine kT<|seqE<|blockE<|sR<|pu1<|sL g0 0 1 (.slice p.stages.a p.stages.n p.stages.k) (isAgg26 _)<|pu1<|sIdx hp.stages (i:Int) runUnderlying26 sizeOf53 fun d0 _ _ j0 k1=>?_
 rw [Int.toNat_natCast] at j0
 refine sLpA g0 (k1.up 1 rfl) 0 (encStage d0) (isAgg53 _) (sizeOf53 _)<|cX call99 (r15_sources d0 ((hp.stagesD d0 (List.mem_of_getElem? j0)).of_mem (mem_flat1 1 (by rfl))) g0.flat) ?_
 rintro _ _ ⟨l1,m0,m1,n1,rfl,n0,o1⟩
 have p1:=o1.unflat1
 have hn_az_27:=n0.len;have hl_az_27:=n0.le
 have k2:1<=(srcs d0.v).length/\(srcs d0.v).length<=2:=srcs_len _
 refine pu1<|zS<|pu1<|nT<|blockE<|loopA (γ:=Nat) (fun k=>[(1,Pt c0 0),(3,I ((p.inputs.n:Int)+(p.stages.n:Int))),(4,I (i:Int)),(5, .slice l1 m0 m1),(6,I (k:Int))]) (fun k w=>Sat W w (n1::[(c0, .cells (encJob p).toArray 28 (0,0))]::H::F)/\k<=m0/\(inR ((p.inputs.l.map Plane.v).length+(p.stages.l.map Stage.v).length:Int) ((srcs d0.v).take k)=true)) (fun k=>m0-k) 0 ⟨p1,om,by rfl⟩ ?_
 rintro k ρ _ ⟨f0,hk,hK⟩
 refine seqE<|sR<|pu4<|nT<|cD ((k:Int)<(m0:Int)) (fun q1=>?_) (fun q1=>?_)
 rotate_left
 ·exact exitE<|xB<|bN<|tN<|rE<|pu1<|sAdd (i:Int) 1<|pu1<|nT<|⟨i+1,od,alA,(f0.dropAt 0 rfl),om,all_succ hE (map_at (f:=Stage.v) j0) (show inR _ (srcs d0.v)=true from all_of_take hK om)⟩
 refine kT<|seqE<|blockE<|sR<|pu2<|sIdx n0 (k:Int) runUnderlying22 sizeOf3 fun k0 _ _ l0 s1=>?_
 rw [Int.toNat_natCast] at l0
 refine sLp f0 (s1.up 0 rfl) 0 (I k0) (isAgg3 _)<|pu2<|sD 75 (k0<0) (fun t1=>?_) (fun t1=>?_)
 ·refine pu7<|zC<|pu1<|zB<|tR<|bR<|tK<|tR<|tK<|retT [I 6] ?_
  have u1:=(f0.drops [0,0])
  have hs1:=all_false_at (p:=fun x=>decide (0<=x/\x<((p.inputs.l.map Plane.v).length+(p.stages.l.map Stage.v).length:Int))) l0 (decide_eq_false om)
  have hs2:=all_false_at (p:=fun s=>inR ((p.inputs.l.map Plane.v).length+(p.stages.l.map Stage.v).length:Int) (srcs s)) (map_at (f:=Stage.v) j0) hs1
  have hk:chkCode p.v=6:=by unfold chkCode;rw [if_pos (by simp only [Job.v];omega),if_pos (by simp only [Job.v];omega),if_neg (by exact fun h=>Bool.false_ne_true (hs2.symm.trans h))]
  exact ⟨by rw [hk];rfl,u1⟩
 refine pu2<|gY<|sIdx n0 (k:Int) runUnderlying22 sizeOf3 fun v1 _ _ p0 w1=>?_
 rw [Int.toNat_natCast] at p0
 obtain rfl:k0=v1:=Option.some.inj (l0.symm.trans p0)
 refine gY<|sLp f0 (w1.up 0 rfl) 0 (I k0) (isAgg3 _)<|pu3<|nT<|cD (k0>=((p.inputs.n:Int)+(p.stages.n:Int))) (fun x1=>?_) (fun x1=>?_)
 rotate_left
 ·exact skipE<|bN<|tN<|rE<|pu1<|sAdd (k:Int) 1<|pu1<|nT<|⟨k+1,od,alA,f0,om,all_succ hK l0 (decide_eq_true om)⟩
 refine sR<|pu1<|zB<|tR<|bR<|tK<|tR<|tK<|retT [I 6] ?_
 have y1:=(f0.drops [0,0])
 have hs1:=all_false_at (p:=fun x=>decide (0<=x/\x<((p.inputs.l.map Plane.v).length+(p.stages.l.map Stage.v).length:Int))) l0 (decide_eq_false om)
 have hs2:=all_false_at (p:=fun s=>inR ((p.inputs.l.map Plane.v).length+(p.stages.l.map Stage.v).length:Int) (srcs s)) (map_at (f:=Stage.v) j0) hs1
 have hk:chkCode p.v=6:=by unfold chkCode;rw [if_pos (by simp only [Job.v];omega),if_pos (by simp only [Job.v];omega),if_neg (by exact fun h=>Bool.false_ne_true (hs2.symm.trans h))]
 exact ⟨by rw [hk];rfl,y1⟩
def ordOK (ni:Int) (out:List Int) (s:StageV):Bool:=(srcs s).all fun x=>decide (x<ni\/x∈out)
def ordPick (ni:Int) (out:List Int):List StageV->Int->Int
  |[],_=>-1
  |s::l,i=>if (decide (¬(ni+i)∈out)&&ordOK ni out s)=true then ni+i else ordPick ni out l (i+1)
def ordGo (ni:Int) (ss:List StageV):Nat->List Int->Option (List Int)
  |0,out=>some out
  |k+1,out=>if ordPick ni out ss 0<0 then none else ordGo ni ss k (out++[ordPick ni out ss 0])
def ordV (j:JobV):List Int×Int:=if chkCode j=0 then (match ordGo j.inputs.length j.stages j.stages.length [] with|some l=>(l,0)|none=>([],7)) else ([],chkCode j)
theorem ordGo_succ {ni:Int} {ss:List StageV} {i:Nat} {out:List Int} {n:Int} (hn:ordPick ni out ss 0=n) (h:0<=n) (hi:i<ss.length):ordGo ni ss (ss.length-i) out=ordGo ni ss (ss.length-(i+1)) (out++[n]):=by
  have e:ss.length-i=(ss.length-(i+1))+1:=by omega
  rw [e,ordGo,hn,if_neg (by omega)]
theorem ordGo_none {ni:Int} {ss:List StageV} {i:Nat} {out:List Int} {n:Int} (hn:ordPick ni out ss 0=n) (h:n<0) (hi:i<ss.length):ordGo ni ss (ss.length-i) out=none:=by
  have e:ss.length-i=(ss.length-(i+1))+1:=by omega
  rw [e,ordGo,hn,if_pos h]
theorem ordPick_range {ni:Int} {out:List Int} {n:Nat}:∀(l:List StageV) (i:Nat),i+l.length=n->0<=ordPick ni out l i->ni<=ordPick ni out l i/\ordPick ni out l i<ni+n
  |[],i,_,h=>by simp [ordPick] at h
  |s::l,i,hl,h=>by
    unfold ordPick at h⊢
    simp only [List.length_cons] at hl
    split
    · omega
    · rename_i hc
      rw [if_neg hc] at h
      exact ordPick_range l (i+1) (by omega) h
theorem ordGo_range {ni:Int} {ss:List StageV}:∀(k:Nat) (out l:List Int),(∀x∈out,ni<=x/\x<ni+ss.length)->ordGo ni ss k out=some l->∀x∈l,ni<=x/\x<ni+ss.length
 |0,out,l,ho,h=>by simp only [ordGo,Option.some.injEq] at h;subst h;exact ho
 |k+1,out,l,ho,h=>by
  unfold ordGo at h
  split at h
  ·cases h
  ·refine ordGo_range k _ l (fun x hx=>?_) h
   rcases List.mem_append.1 hx with h1|h1
   ·exact ho x h1
   ·simp only [List.mem_singleton] at h1
    subst h1
    have h2:(0:Int)<=ordPick ni out ss ((0:Nat):Int):=by have e:((0:Nat):Int)=0:=rfl;rw [e];omega
    exact ordPick_range ss 0 om h2
theorem ordV_range {j:JobV} (h:(ordV j).2=0):∀x∈(ordV j).1,(j.inputs.length:Int)<=x/\x<j.inputs.length+j.stages.length:=by
  unfold ordV at*
  split at h
  · rename_i hc
    rw [if_pos hc]
    split at h
    · rename_i l hl
      exact ordGo_range _ _ _ (fun x hx=>by cases hx) hl
    · simp at h
  · rename_i hc
    exact absurd h hc
theorem ordV_chk {j:JobV} (h:(ordV j).2=0):chkCode j=0:=by
  unfold ordV at h
  split at h
  · assumption
  · exact h
theorem r17_order (p : Job) (hp : Job.Ok [H] p) (hb : p.inputs.n <= 1000000 /\ p.stages.n <= 1000000 /\ p.outputs.n <= 1000000) (hS : Sat W w (H :: F)) :
  Calls prog 46 #[.agg (encJob p).toArray] w fun e w' => ∃ (az : Option Addr) (nz kz : Nat) (G : Chunk), e = .returned (.tuple #[.slice az nz kz, I ((ordV p.v).2)]) /\ RdT Go.E.encI 1 [G] az nz kz ((ordV p.v).1) /\ Sat W w' (G :: H :: F) := by
 have hl_p_inputs := hp.inputs.le; have hn_p_inputs := hp.inputs.len
 have hl_p_stages := hp.stages.le; have hn_p_stages := hp.stages.len
 have hl_p_outputs := hp.outputs.le; have hn_p_outputs := hp.outputs.len
 have hmi : (p.inputs.l.map Plane.v).length = p.inputs.n := by simp [hn_p_inputs]
 have hms : (p.stages.l.map Stage.v).length = p.stages.n := by simp [hn_p_stages]
 refine callsA 83 func46 rfl <| sR <| sBox hS (.agg (encJob p).toArray) (encJob p).toArray fun c0 _ v0 => pu2 <| zQ <| lA v0 0 0 4 (isAgg28 _) (sizeOf28 _) <| cR call97 (r17_check p (hp.of_mem (mem_flat1 1 (by rfl))) (od) v0.flat) fun _ w0 => pu1 <| zS <| pu2 <| nT <| cN (chkCode p.v) 0 (fun z0 => ?_) (fun z0 => ?_)
 rotate_left
 ·refine sR <| pu3 <| zR <| retT [nS, I (chkCode p.v)] ?_
  have hk : ordV p.v = ([], (chkCode p.v)) := by unfold ordV; rw [if_neg ‹_›]
  have a1 := (w0.dropAt 0 rfl)
  have b1 : Sat W _ ([] :: H :: F) := Sat.nilc a1
  have hl : ([] : List Int) = (ordV p.v).1 := (by rw [hk])
  have hrd := RdT.nil (enc := Go.E.encI) (sz := 1) fR [[]]
  rw [hl] at hrd
  exact ⟨_, _, _, _, (by rw [hk]; rfl), hrd, b1⟩
 refine kS <| pu1 <| nT <| seqE <| blockE ?_
 have c1 := Sat.nilc w0
 refine loopA (γ := Nat × (List Int) × (Option Addr) × Nat × Nat × Chunk) (fun ⟨i, zs, azs, nzs, kzs, czs⟩ => [(1, Pt c0 0), (5, .slice azs nzs kzs)]) (fun ⟨i, zs, azs, nzs, kzs, czs⟩ w => Sat W w (czs :: [(c0, .cells (encJob p).toArray 28 (0, 0))] :: H :: F) /\ i <= p.stages.n /\ (zs.length = i) /\ (ordGo (p.inputs.n : Int) (p.stages.l.map Stage.v) (p.stages.l.map Stage.v).length [] = ordGo (p.inputs.n : Int) (p.stages.l.map Stage.v) ((p.stages.l.map Stage.v).length - i) zs) /\ OwnT Go.E.encI 3 1 azs nzs kzs zs czs) (fun ⟨i, zs, azs, nzs, kzs, czs⟩ => p.stages.n - i) (0, [], none, 0, 0, []) ⟨c1, om, by rfl, by rfl, (OwnT.nil (enc := Go.E.encI) (E := 3) (sz := 1) fR)⟩ ?_
 rintro ⟨i, zs, azs, nzs, kzs, czs⟩ ρ _ ⟨o0, hi, hzi, hG, hOzs⟩
 have hn_zs := hOzs.len; have hl_zs := hOzs.le
 refine seqE <| sR <| pu3 <| sL o0 1 1 (.slice p.stages.a p.stages.n p.stages.k) (isAgg26 _) <| pu2 <| nT <| cD ((nzs : Int) < (p.stages.n : Int)) (fun e1 => ?_) (fun e1 => ?_)
 rotate_left
 ·refine exitE <| xB <| tN <| sR <| pu3 <| zE <| retT [.slice azs nzs kzs, I 0] ?_
  have hk : ordV p.v = (zs, 0) := by
   have h0 : ordGo p.v.inputs.length p.v.stages p.v.stages.length [] = some zs := by
    have h := hG; rw [show (p.stages.l.map Stage.v).length - i = 0 from by simp; omega] at h; rw [<- hmi] at h; exact h
   unfold ordV; rw [if_pos om, h0]
  have f1 := (o0.dropAt 1 rfl)
  have hl : zs = (ordV p.v).1 := (by rw [hk])
  have hrd := (hOzs.rdAt (cs := [czs]) 0 rfl)
  rw [hl] at hrd
  exact ⟨_, _, _, _, (by rw [hk]; rfl), hrd, f1⟩
 refine kT <| blockE <| sR <| pu1 <| zQ <| pu1 <| nT <| blockE <| loopA (γ := Nat × Int) (fun ⟨j, nx⟩ => [(1, Pt c0 0), (5, .slice azs nzs kzs), (7, I (j : Int)), (6, I nx)]) (fun ⟨j, nx⟩ w => Sat W w (czs :: [(c0, .cells (encJob p).toArray 28 (0, 0))] :: H :: F) /\ j <= p.stages.n /\ ((nx = -1 /\ ordPick (p.inputs.n : Int) zs (p.stages.l.map Stage.v) 0 = ordPick (p.inputs.n : Int) zs ((p.stages.l.map Stage.v).drop j) (j : Int)) \/ (0 <= nx /\ nx = ordPick (p.inputs.n : Int) zs (p.stages.l.map Stage.v) 0))) (fun ⟨j, nx⟩ => p.stages.n - j) (0, -1) ⟨o0, om, by exact .inl ⟨rfl, rfl⟩⟩ ?_
 rintro ⟨j, nx⟩ ρ _ ⟨f0, hj, hP⟩
 refine seqE <| sR <| pu2 <| sL f0 1 1 (.slice p.stages.a p.stages.n p.stages.k) (isAgg26 _) <| pu3 <| sD 28 ((j : Int) < (p.stages.n : Int)) (fun g1 => ?_) (fun g1 => ?_)
 rotate_left
 ·refine pu3 <| nT <| cFf <| exitE <| xB <| tN <| seqE <| seqE ?_
  have hpk : ordPick (p.inputs.n : Int) zs (p.stages.l.map Stage.v) 0 = nx := by
   rcases hP with ⟨h1, h2⟩ | ⟨h1, h2⟩
   ·rw [h2, List.drop_of_length_le (by simp; omega), h1]; rfl
   ·exact h2.symm
  refine rE <| pu2 <| nT <| cD (nx < 0) (fun i1 => ?_) (fun i1 => ?_)
  rotate_left
  ·refine kT <| rE <| pu2 <| sBS f0 #[I nx] runUnderlying22 sizeOf3 zeroValue3 fun _ _ j1 => sApp (nb := 8) j1 hOzs 1 (RdT.blk (enc := Go.E.encI) (sz := 1) (xs := [nx]) fR 1 0 rfl rfl rfl om) underlying22 (i := Tryz.t3) kr fR fun k1 l1 m1 _ n1 o1 => pu1 <| nB ?_
   exact ⟨(i + 1, (zs ++ [nx]), k1, (nzs + 1), l1, m1), od, alA, (o1.dropAt 0 rfl), om, by simp; omega, by rw [hG]; exact ordGo_succ hpk om (by simp; omega), n1⟩
  refine sR <| pu2 <| zE <| tR <| tR <| tK <| retT [nS, I 7] ?_
  have hk : ordV p.v = ([], 7) := by
   have h0 : ordGo p.v.inputs.length p.v.stages p.v.stages.length [] = none := by
    have h := hG; rw [ordGo_none hpk om (by simp; omega)] at h; rw [<- hmi] at h; exact h
   unfold ordV; rw [if_pos om, h0]
  have q1 := (f0.drops [0, 0])
  have r1 : Sat W _ ([] :: H :: F) := Sat.nilc q1
  have hl : ([] : List Int) = (ordV p.v).1 := (by rw [hk])
  have hrd := RdT.nil (enc := Go.E.encI) (sz := 1) fR [[]]
  rw [hl] at hrd
  exact ⟨_, _, _, _, (by rw [hk]; rfl), hrd, r1⟩
 refine pu3 <| nT <| cD (nx < 0) (fun x0 => ?_) (fun x0 => ?_)
 rotate_left
 ·refine exitE <| xB <| tN <| seqE <| seqE ?_
  have hpk : ordPick (p.inputs.n : Int) zs (p.stages.l.map Stage.v) 0 = nx := by
   rcases hP with ⟨h1, h2⟩ | ⟨h1, h2⟩
   ·rw [h2, List.drop_of_length_le (by simp; omega), h1]; rfl
   ·exact h2.symm
  refine rE <| pu2 <| nT <| cF _ (decide_eq_false x0) <| kT <| rE <| pu2 <| sBS f0 #[I nx] runUnderlying22 sizeOf3 zeroValue3 fun _ _ s1 => sApp (nb := 8) s1 hOzs 1 (RdT.blk (enc := Go.E.encI) (sz := 1) (xs := [nx]) fR 1 0 rfl rfl rfl om) underlying22 (i := Tryz.t3) kr fR fun t1 u1 v1 _ w1 x1 => pu1 <| nB ?_
  exact ⟨(i + 1, (zs ++ [nx]), t1, (nzs + 1), u1, v1), od, alA, (x1.dropAt 0 rfl), om, by simp; omega, by rw [hG]; exact ordGo_succ hpk om (by simp; omega), w1⟩
 refine kT <| seqE <| blockE <| seqE ?_
 obtain ⟨hnx, hP1⟩ : nx = -1 /\ ordPick (p.inputs.n : Int) zs (p.stages.l.map Stage.v) 0 = ordPick (p.inputs.n : Int) zs ((p.stages.l.map Stage.v).drop j) j := by
  rcases hP with h | h
  ·exact h
  ·omega
 refine rE <| pu1 <| sL f0 1 0 (.slice p.inputs.a p.inputs.n p.inputs.k) (isAgg25 _) <| pu2 <| sAdd (p.inputs.n : Int) (j : Int) <| pu1 <| zS <| pu2 <| cR call98 (r17_has azs nzs kzs zs ((p.inputs.n : Int) + (j : Int)) (RdT.flat (hOzs.rdAt 0 (by rfl))) f0.flat) fun _ p0 => pu2 <| zS <| pu1 <| sL p0 1 1 (.slice p.stages.a p.stages.n p.stages.k) (isAgg26 _) <| pu1 <| sIdx hp.stages (j : Int) runUnderlying26 sizeOf53 fun d0 _ _ k0 z1 => ?_
 rw [Int.toNat_natCast] at k0
 refine sLpA p0 (z1.up 2 rfl) 0 (encStage d0) (isAgg53 _) (sizeOf53 _) <| cX call99 (r15_sources d0 ((hp.stagesD d0 (List.mem_of_getElem? k0)).of_mem (mem_flat1 2 (by rfl))) p0.flat) ?_
 rintro _ _ ⟨l0, e0, m0, a2, rfl, q0, b2⟩
 have c2 := b2.unflat1
 have hn_az_28 := q0.len; have hl_az_28 := q0.le
 have y2 : 1 <= (srcs d0.v).length /\ (srcs d0.v).length <= 2 := srcs_len _
 refine pu1 <| zQ <| pu1 <| nT <| blockE <| loopA (γ := Nat × Bool) (fun ⟨k, rd⟩ => [(1, Pt c0 0), (5, .slice azs nzs kzs), (7, I (j : Int)), (6, I nx), (8, I ((p.inputs.n : Int) + (j : Int))), (10, .slice l0 e0 m0), (11, I (k : Int)), (9, .bool rd)]) (fun ⟨k, rd⟩ w => Sat W w (a2 :: czs :: [(c0, .cells (encJob p).toArray 28 (0, 0))] :: H :: F) /\ k <= e0 /\ (rd = (decide (¬ ((p.inputs.n : Int) + (j : Int)) ∈ zs) && ((srcs d0.v).take k).all (fun x => decide (x < (p.inputs.n : Int) \/ x ∈ zs))))) (fun ⟨k, rd⟩ => e0 - k) (0, (!decide (((p.inputs.n : Int) + (j : Int)) ∈ zs))) ⟨c2, om, by simp⟩ ?_
 rintro ⟨k, rd⟩ ρ _ ⟨a0, hk, hQ⟩
 refine seqE <| sR <| pu4 <| nT <| cD ((k : Int) < (e0 : Int)) (fun d2 => ?_) (fun d2 => ?_)
 rotate_left
 ·refine exitE <| xB <| tN <| seqE ?_
  have hrd : rd = (decide (¬ ((p.inputs.n : Int) + (j : Int)) ∈ zs) && ordOK (p.inputs.n : Int) zs d0.v) := by rw [hQ, List.take_of_length_le om]; rfl
  refine rE <| pu1 <| nT <| cB rd (fun e2 => ?_) (fun e2 => ?_)
  rotate_left
  ·refine skipE <| bN <| tN <| rE <| pu1 <| sAdd (j : Int) 1 <| pu1 <| nT ?_
   exact ⟨(j + 1, nx), od, alA, (a0.dropAt 0 rfl), om, .inl ⟨hnx, by rw [hP1, drop_at (map_at (f := Stage.v) k0), ordPick, if_neg (by rw [<- hrd]; assumption)]; rfl⟩⟩
  refine rE <| pu2 <| nB <| rE <| pu1 <| sAdd (j : Int) 1 <| pu1 <| nT ?_
  exact ⟨(j + 1, ((p.inputs.n : Int) + (j : Int))), od, alA, (a0.dropAt 0 rfl), om, .inr ⟨om, by rw [hP1, drop_at (map_at (f := Stage.v) k0), ordPick, if_pos (by rw [<- hrd]; assumption)]⟩⟩
 refine kT <| seqE <| blockE ?_
 rcases Classical.em (rd = true) with n0 | n0
 rotate_left
 ·refine drawE [16] [] [(true, [0, 1]), (true, [2, 3, 4, 6, 5, 7, 8, 9, 10, 11, 12, 13, 14, 15]), (false, [16]), (true, [17, 18, 19])] rfl kr trivial ?_
  have i2 := a0.drew
  refine wU [0, 1] <| wFix 56 _ false (Bool.eq_false_iff.2 n0) <| wU [2, 3, 4, 6, 5, 7, 8, 9, 10, 11, 12, 13, 14, 15] <| wO rfl <| pu1 <| nilO ⟨trivial, ?_⟩
  exact wU [17, 18, 19] <| wN <| bN <| tN <| rE <| pu1 <| sAdd (k : Int) 1 <| pu1 <| nT <| ⟨(k + 1, false), od, alA, i2, om, (all_take_false (hQ.symm.trans (by simpa using (by assumption : ¬ rd = true)))).symm⟩
 obtain ⟨b0, g0, i0, r0, j0, s0⟩ := RdT.elem q0 (k : Int)
 rw [Int.toNat_natCast] at r0
 by_cases y0 : (b0 : Int) < (p.inputs.n : Int)
 ·refine drawE [16] [(5, ⟨g0, i0, none⟩, I b0), (7, ⟨c0, 0, none⟩, .slice p.inputs.a p.inputs.n p.inputs.k)] [(true, [0, 1]), (true, [2, 3]), (true, [4]), (true, [6]), (true, [5]), (true, [7]), (true, [8, 9, 10]), (true, [11, 12, 13, 14, 15]), (false, [16]), (true, [17, 18, 19])] rfl kr ⟨.inr ((j0.up 0 rfl).cell a0 (k := 0) rfl), cI a0 2, trivial⟩ ?_
  have t0 := a0.drew
  refine wU [0, 1] <| wFix 56 _ true n0 <| wU [2, 3] <| wY (.pointer (some ⟨g0, i0, none⟩)) rfl (fun w _ => Y_idx (a := l0) (i := (k : Int)) (len := e0) (cap := m0) rfl runUnderlying22 sizeOf3 kr kr s0) <| wU [6] <| wLd (I b0) 0 isAgg3 <| wLd (.slice p.inputs.a p.inputs.n p.inputs.k) 1 isAgg25 <| wU [8, 9, 10] <| wFix 65 _ true (decide_eq_true y0) <| wU [11, 12, 13, 14, 15] <| wO rfl <| pu1 <| nilO ⟨⟨.inr ((j0.up 0 rfl).cell t0 (k := 0) rfl), cI t0 2, trivial⟩, ?_⟩
  refine wU [17, 18, 19] <| wN <| bN <| tN <| rE <| pu1 <| sAdd (k : Int) 1 <| pu1 <| nT ?_
  exact ⟨(k + 1, true), od, alA, t0, om, by rw [all_take_succ r0, <- Bool.and_assoc, <- hQ, (by assumption : rd = true), Bool.true_and]; exact (decide_eq_true (.inl ‹_›)).symm⟩
 refine drawE [16] [(5, ⟨g0, i0, none⟩, I b0), (7, ⟨c0, 0, none⟩, .slice p.inputs.a p.inputs.n p.inputs.k), (15, ⟨g0, i0, none⟩, I b0)] [(true, [0, 1]), (true, [2, 3]), (true, [4]), (true, [6]), (true, [5]), (true, [7]), (true, [8, 9, 10]), (true, [11, 12, 13]), (true, [14]), (true, [15]), (false, [16]), (true, [17, 18, 19])] rfl kr ⟨.inr ((j0.up 0 rfl).cell a0 (k := 0) rfl), cI a0 2, .inr ((j0.up 0 rfl).cell a0 (k := 0) rfl), trivial⟩ ?_
 have j2 := a0.drew
 refine wU [0, 1] <| wFix 56 _ true n0 <| wU [2, 3] <| wY (.pointer (some ⟨g0, i0, none⟩)) rfl (fun w _ => Y_idx (a := l0) (i := (k : Int)) (len := e0) (cap := m0) rfl runUnderlying22 sizeOf3 kr kr s0) <| wU [6] <| wLd (I b0) 0 isAgg3 <| wLd (.slice p.inputs.a p.inputs.n p.inputs.k) 1 isAgg25 <| wU [8, 9, 10] <| wFix 65 _ false (decide_eq_false y0) <| wU [11, 12, 13] <| wY (.pointer (some ⟨g0, i0, none⟩)) rfl (fun w _ => Y_idx (a := l0) (i := (k : Int)) (len := e0) (cap := m0) rfl runUnderlying22 sizeOf3 kr kr s0) <| wLd (I b0) 2 isAgg3 <| wO rfl <| gY <| cR call98 (r17_has azs nzs kzs zs b0 (RdT.flat (hOzs.rdAt 1 (by rfl))) j2.flat) fun _ u0 => ?_
 refine nilO ⟨⟨.inr ((j0.up 0 rfl).cell u0 (k := 0) rfl), cI u0 2, dI, trivial⟩, ?_⟩
 refine wU [17, 18, 19] <| wN <| bN <| tN <| rE <| pu1 <| sAdd (k : Int) 1 <| pu1 <| nT ?_
 exact ⟨(k + 1, decide (b0 ∈ zs)), od, alA, u0, om, by rw [all_take_succ r0, <- Bool.and_assoc, <- hQ, (by assumption : rd = true), Bool.true_and]; exact decide_eq_decide.2 ⟨fun h => .inr h, fun h => h.resolve_left ‹_›⟩⟩
def shpOf (p:PlaneV):Shape:=⟨p.w,p.h,p.max_⟩
def shpAt (l:List Shape) (i:Int):Shape:=l[i.toNat]?.getD ⟨0,0,0⟩
def stgAt (ss:List StageV) (ni n:Int):StageV:=ss[(n-ni).toNat]?.getD ⟨0,0,0,false,0,0,0,0,[],[],[],0,0,[],[],0,[],0⟩
def shpStep (ni:Int) (ss:List StageV) (n:Int) (out:List Shape):Shape×Int:=
  ofV (stgAt ss ni n) (shpAt out (stgAt ss ni n).a) (if twoP (stgAt ss ni n) then shpAt out (stgAt ss ni n).b else ⟨0,0,0⟩)
def shpGo (ni:Int) (ss:List StageV):List Int->List Shape->List Shape×Int×Int
  |[],out=>(out,0,0)
  |n::l,out=>if (shpStep ni ss n out).2=0 then shpGo ni ss l (out.set n.toNat (shpStep ni ss n out).1) else ([],n,(shpStep ni ss n out).2)
def shpV (j:JobV):List Shape×Int×Int:=
  if (ordV j).2=0 then (if j.inputs.all planeOK=true then shpGo j.inputs.length j.stages (ordV j).1 (j.inputs.map shpOf++List.replicate j.stages.length ⟨0,0,0⟩) else ([],(j.inputs.takeWhile planeOK).length,1)) else ([],0,(ordV j).2)
theorem takeWhile_at {α:Type} {p:α->Bool}:∀{l:List α} {i:Nat} {x:α},(l.take i).all p=true->l[i]?=some x->p x=false->(l.takeWhile p).length=i
  |[],i,x,_,h,_=>by simp at h
  |y::l,0,x,_,h,e=>by simp at h;subst h;simp [e]
  |y::l,i+1,x,h0,h,e=>by
    simp only [List.take_succ_cons,List.all_cons,Bool.and_eq_true] at h0
    rw [List.takeWhile_cons,if_pos h0.1]
    simp only [List.length_cons]
    rw [takeWhile_at h0.2 (by simpa using h) e]
theorem chk_src {j:JobV} (h:chkCode j=0) {s:StageV} (hs:s∈j.stages):(0<=s.a/\s.a<j.inputs.length+j.stages.length)/\(twoP s->0<=s.b/\s.b<j.inputs.length+j.stages.length):=by
  unfold chkCode at h
  split at h
  · split at h
    · split at h
      · rename_i hall
        have h1:=List.all_eq_true.1 hall s hs
        have h2:=fun x hx=>of_decide_eq_true (List.all_eq_true.1 h1 x hx)
        constructor
        · exact h2 s.a (by unfold srcs;split<;>simp)
        · intro ht;exact h2 s.b (by unfold srcs;rw [if_pos ht];simp)
      · omega
    · omega
  · omega
theorem r17_of (p:Plane) (hp:Plane.Ok [H] p) (hS:Sat W w (H::F)):
  Ro prog 25 #[.agg (encPlane p).toArray] (.agg #[I p.w,I p.h,I p.max_]) W w (H::F):=by
 have hl_p_pix:=hp.pix.le;have hn_p_pix:=hp.pix.len
 exact callsA 10 func25 rfl<|sR<|sBox hS (.agg (encPlane p).toArray) (encPlane p).toArray fun _ _ c0=>sAlloc c0 zeroValue65 fun _ _ a0=>zS<|pu1<|sL a0 1 0 (I p.w) (isAgg3 _)<|pu1<|sL a0 1 1 (I p.h) (isAgg3 _)<|pu1<|sL a0 1 2 (I p.max_) (isAgg3 _)<|pu1<|sTl a0 0 [I p.w,I p.h,I p.max_] sizeOf65 fun _ b0=>zE<|retN (vs:=[.agg #[I p.w,I p.h,I p.max_]]) rfl (.cons (.cell _ _ _ _ kr (lvA b0 0 0 [I p.w,I p.h,I p.max_] (isAgg65 _) (sizeOf65 _) rfl rfl rfl)) .nil)<|⟨rfl,(b0.drops [0,0])⟩
theorem r17_shapes (p : Job) (hp : Job.Ok [H] p) (hb : p.inputs.n <= 1000000 /\ p.stages.n <= 1000000 /\ p.outputs.n <= 1000000) (hS : Sat W w (H :: F)) :
  Calls prog 96 #[.agg (encJob p).toArray] w fun e w' => ∃ (az : Option Addr) (nz kz : Nat) (G : Chunk), e = .returned (.tuple #[.slice az nz kz, I ((shpV p.v).2.1), I ((shpV p.v).2.2)]) /\ RdT encShape 3 [G] az nz kz ((shpV p.v).1) /\ Sat W w' (G :: H :: F) := by
 have hl_p_inputs := hp.inputs.le; have hn_p_inputs := hp.inputs.len
 have hl_p_stages := hp.stages.le; have hn_p_stages := hp.stages.len
 have hl_p_outputs := hp.outputs.le; have hn_p_outputs := hp.outputs.len
 have hmi : (p.inputs.l.map Plane.v).length = p.inputs.n := by simp [hn_p_inputs]
 have hms : (p.stages.l.map Stage.v).length = p.stages.n := by simp [hn_p_stages]
 refine callsA 106 func96 rfl <| sR <| sBox hS (.agg (encJob p).toArray) (encJob p).toArray fun m0 _ i1 => pu3 <| zS <| lA i1 0 0 4 (isAgg28 _) (sizeOf28 _) <| cX call46 (r17_order p (hp.of_mem (mem_flat1 1 (by rfl))) (od) i1.flat) ?_
 rintro _ _ ⟨p0, n0, q0, z0, rfl, x0, w1⟩
 have a1 := w1.unflat1
 have hn_az_7 := x0.len; have hl_az_7 := x0.le
 refine pu5 <| zQ <| pu2 <| nT <| cN ((ordV p.v).2) 0 (fun x1 => ?_) (fun x1 => ?_)
 rotate_left
 ·refine sR <| pu4 <| zR <| retT [nS, I 0, I ((ordV p.v).2)] ?_
  have hk : shpV p.v = ([], 0, (ordV p.v).2) := by unfold shpV; rw [if_neg ‹_›]
  have y1 := (a1.drops [0, 0])
  have z1 : Sat W _ ([] :: H :: F) := Sat.nilc y1
  have hl : ([] : List Shape) = (shpV p.v).1 := (by rw [hk])
  have hrd := RdT.nil (enc := encShape) (sz := 3) fR [[]]
  rw [hl] at hrd
  exact ⟨_, _, _, _, (by rw [hk]; rfl), hrd, z1⟩
 refine kS <| pu1 <| sL a1 1 0 (.slice p.inputs.a p.inputs.n p.inputs.k) (isAgg25 _) <| pu2 <| sL a1 1 1 (.slice p.stages.a p.stages.n p.stages.k) (isAgg26 _) <| pu1 <| sAdd (p.inputs.n : Int) (p.stages.n : Int) <| sMake (kl := .i64) (kc := .i64) (enc := encShape) (sz := 3) (nb := 24) a1 ⟨0, 0, 0⟩ (((p.inputs.n : Int) + (p.stages.n : Int))).toNat ((p.inputs.n : Int) + (p.stages.n : Int)) (om : ((p.inputs.n : Int) + (p.stages.n : Int)) = (((((p.inputs.n : Int) + (p.stages.n : Int))).toNat : Nat) : Int)) underlying82 (i := Tryz.t65) kr fR fun a2 b2 _ c2 d2 => pu1 <| zQ <| pu1 <| nT <| blockE ?_
 refine loopA (γ := Nat × (List Shape) × (Option Addr) × Nat × Nat × Chunk) (fun ⟨i, zs, azs, nzs, kzs, czs⟩ => [(1, Pt m0 0), (5, .slice p0 n0 q0), (8, I (i : Int)), (7, .slice azs nzs kzs)]) (fun ⟨i, zs, azs, nzs, kzs, czs⟩ w => Sat W w (czs :: z0 :: [(m0, .cells (encJob p).toArray 28 (0, 0))] :: H :: F) /\ i <= p.inputs.n /\ (zs = ((p.inputs.l.map Plane.v).take i).map shpOf ++ List.replicate (p.inputs.n + p.stages.n - i) ⟨0, 0, 0⟩) /\ (((p.inputs.l.map Plane.v).take i).all planeOK = true) /\ (zs.length = p.inputs.n + p.stages.n) /\ OwnT encShape 65 3 azs nzs kzs zs czs) (fun ⟨i, zs, azs, nzs, kzs, czs⟩ => p.inputs.n - i) (0, (List.replicate (((p.inputs.n : Int) + (p.stages.n : Int))).toNat ⟨0, 0, 0⟩), (At a2 0), (((p.inputs.n : Int) + (p.stages.n : Int))).toNat, (((p.inputs.n : Int) + (p.stages.n : Int))).toNat, b2) ⟨d2, om, by simp; omega, by rfl, by simp; omega, c2⟩ ?_
 rintro ⟨i, zs, azs, nzs, kzs, czs⟩ ρ _ ⟨y0, hi, hZ, hV, hzl, hOzs⟩
 have hn_zs := hOzs.len; have hl_zs := hOzs.le
 refine seqE <| sR <| pu2 <| sL y0 2 0 (.slice p.inputs.a p.inputs.n p.inputs.k) (isAgg25 _) <| pu2 <| nT <| cD ((i : Int) < (p.inputs.n : Int)) (fun e2 => ?_) (fun e2 => ?_)
 ·refine kT <| seqE <| blockE <| seqE <| sR <| pu1 <| sL y0 2 0 (.slice p.inputs.a p.inputs.n p.inputs.k) (isAgg25 _) <| pu1 <| sIdx hp.inputs (i : Int) runUnderlying25 sizeOf38 fun g0 _ _ r0 f2 => ?_
  rw [Int.toNat_natCast] at r0
  refine sLpA y0 (f2.up 3 rfl) 0 (encPlane g0) (isAgg38 _) (sizeOf38 _) <| cR call76 (r4_valid g0 ⟨(RdT.flat ((hp.inputsD g0 (List.mem_of_getElem? r0)).pix.up 3 (by rfl)))⟩ y0.flat) fun _ b1 => pu1 <| nT <| cBn (planeOK g0.v) (fun g2 => ?_) (fun g2 => ?_)
  rotate_left
  ·refine sR <| pu4 <| zE <| tR <| tK <| tR <| tK <| retT [nS, I (i : Int), I 1] ?_
   have hbad : (p.inputs.l.map Plane.v).all planeOK = false := all_false_at (map_at (f := Plane.v) r0) (by simpa using (by assumption : ¬ planeOK g0.v = true))
   have htw : ((p.inputs.l.map Plane.v).takeWhile planeOK).length = i := takeWhile_at hV (map_at (f := Plane.v) r0) (by simpa using (by assumption : ¬ planeOK g0.v = true))
   have hk : shpV p.v = ([], (i : Int), 1) := by unfold shpV; rw [if_pos ‹_›, if_neg (by exact fun h => Bool.false_ne_true (hbad.symm.trans h))]; exact congrArg (fun n : Nat => (([] : List Shape), (n : Int), (1 : Int))) htw
   have i2 := (b1.drops [0, 0, 0])
   have j2 : Sat W _ ([] :: H :: F) := Sat.nilc i2
   have hl : ([] : List Shape) = (shpV p.v).1 := (by rw [hk])
   have hrd := RdT.nil (enc := encShape) (sz := 3) fR [[]]
   rw [hl] at hrd
   exact ⟨_, _, _, _, (by rw [hk]; rfl), hrd, j2⟩
  refine kT <| rE <| pu3 <| sL b1 2 0 (.slice p.inputs.a p.inputs.n p.inputs.k) (isAgg25 _) <| pu1 <| sIdx hp.inputs (i : Int) runUnderlying25 sizeOf38 fun k2 _ _ f1 l2 => ?_
  rw [Int.toNat_natCast] at f1
  obtain rfl : g0 = k2 := Option.some.inj (r0.symm.trans f1)
  refine sLpA b1 (l2.up 3 rfl) 0 (encPlane g0) (isAgg38 _) (sizeOf38 _) <| cR call25 (r17_of g0 ⟨(RdT.flat ((hp.inputsD g0 (List.mem_of_getElem? f1)).pix.up 3 (by rfl)))⟩ b1.flat) fun _ m2 => sIdxO hOzs (i : Int) i runUnderlying82 sizeOf65 fun n2 _ _ o2 _ p2 => sStF m2 hOzs p2 0 i 0 n2 (⟨g0.w, g0.h, g0.max_⟩ : Shape) o2 (.agg #[I g0.w, I g0.h, I g0.max_]) [I g0.w, I g0.h, I g0.max_] sizeOf65 fun _ q2 r2 s2 => nB <| rE <| pu1 <| sAdd (i : Int) 1 <| pu1 <| nT ?_
  exact ⟨(i + 1, (zs.set i (⟨g0.w, g0.h, g0.max_⟩ : Shape)), azs, nzs, kzs, q2), od, alA, s2, om, by rw [hZ]; exact set_rep (f := shpOf) (map_at (f := Plane.v) r0) om, all_succ hV (map_at (f := Plane.v) r0) ‹_›, by simp; omega, r2⟩
 refine exitE <| xB <| tN <| seqE <| seqE ?_
 have hall : (p.inputs.l.map Plane.v).all planeOK = true := all_of_take hV (by simp; omega)
 have hzs : zs = (p.inputs.l.map Plane.v).map shpOf ++ List.replicate p.stages.n ⟨0, 0, 0⟩ := by rw [hZ, List.take_of_length_le (by simp; omega)]; congr 2; omega
 have hordr := ordV_range (j := p.v) om; have hchk := ordV_chk (j := p.v) om
 refine rE <| pu1 <| nT <| blockE ?_
 refine loopA (γ := Nat × (List Shape) × (Option Addr) × Nat × Nat × Chunk) (fun ⟨i, ys, ays, nys, kys, cys⟩ => [(1, Pt m0 0), (5, .slice p0 n0 q0), (9, I (i : Int)), (7, .slice ays nys kys)]) (fun ⟨i, ys, ays, nys, kys, cys⟩ w => Sat W w (cys :: z0 :: [(m0, .cells (encJob p).toArray 28 (0, 0))] :: H :: F) /\ i <= n0 /\ (shpGo (p.inputs.n : Int) (p.stages.l.map Stage.v) ((ordV p.v).1) zs = shpGo (p.inputs.n : Int) (p.stages.l.map Stage.v) (((ordV p.v).1).drop i) ys) /\ (ys.length = p.inputs.n + p.stages.n) /\ OwnT encShape 65 3 ays nys kys ys cys) (fun ⟨i, ys, ays, nys, kys, cys⟩ => n0 - i) (0, zs, azs, nzs, kzs, czs) ⟨y0, om, by rfl, by rw [hzs]; simp; omega, hOzs⟩ ?_
 rintro ⟨i, ys, ays, nys, kys, cys⟩ ρ _ ⟨f0, hi, hS2, hyl, hOys⟩
 have hn_ys := hOys.len; have hl_ys := hOys.le
 refine seqE <| sR <| pu4 <| nT <| cD ((i : Int) < (n0 : Int)) (fun t2 => ?_) (fun t2 => ?_)
 rotate_left
 ·refine exitE <| xB <| tN <| sR <| pu4 <| zE <| retT [.slice ays nys kys, I 0, I 0] ?_
  have hk0 : shpV p.v = shpGo (p.inputs.n : Int) (p.stages.l.map Stage.v) ((ordV p.v).1) zs := by unfold shpV; rw [if_pos ‹_›, if_pos (by exact hall)]; rw [hzs, <- hms, <- hmi]; rfl
  have hk : shpV p.v = (ys, 0, 0) := by rw [hk0, hS2, List.drop_of_length_le om]; rfl
  have u2 := (f0.drops [1, 1])
  have hl : ys = (shpV p.v).1 := (by rw [hk])
  have hrd := (hOys.rdAt (cs := [cys]) 0 rfl)
  rw [hl] at hrd
  exact ⟨_, _, _, _, (by rw [hk]; rfl), hrd, u2⟩
 refine kT <| seqE <| blockE <| seqE ?_
 obtain ⟨c0, j1, k1, t0, l1, v2⟩ := RdT.elem x0 (i : Int)
 rw [Int.toNat_natCast] at t0
 have hox_x_53 : (p.inputs.n : Int) <= c0 /\ c0 < (p.inputs.n : Int) + (p.stages.n : Int) := by have h := hordr c0 (List.mem_of_getElem? t0); simp only [Job.v] at h; omega
 obtain ⟨a0, k0, l0, u0, b0, w2⟩ := RdT.elem hp.stages (c0 - (p.inputs.n : Int))
 obtain ⟨hsa, hsb⟩ := chk_src hchk (s := a0.v) (List.mem_map_of_mem (List.mem_of_getElem? u0))
 have hsa2 : 0 <= a0.a /\ a0.a < (p.inputs.n : Int) + (p.stages.n : Int) := by simp only [Job.v, Stage.v] at hsa; omega
 have hsb2 : (a0.kind = 6 /\ ¬ a0.b = -1) -> 0 <= a0.b /\ a0.b < (p.inputs.n : Int) + (p.stages.n : Int) := by intro h; have h2 := hsb (by unfold twoP; simp only [Stage.v]; exact h); simp only [Job.v, Stage.v] at h2; omega
 refine drawE [12, 13] [(1, ⟨m0, 1, none⟩, .slice p.stages.a p.stages.n p.stages.k), (5, ⟨j1, k1, none⟩, I c0), (7, ⟨m0, 0, none⟩, .slice p.inputs.a p.inputs.n p.inputs.k), (11, ⟨k0, l0 + 0, none⟩, I a0.kind), (11, ⟨k0, l0 + 1, none⟩, I a0.a), (11, ⟨k0, l0 + 2, none⟩, I a0.b), (11, ⟨k0, l0 + 3, none⟩, .bool a0.barrier), (11, ⟨k0, l0 + 4, none⟩, I a0.edgePolicy), (11, ⟨k0, l0 + 5, none⟩, I a0.edgeFill), (11, ⟨k0, l0 + 6, none⟩, I a0.kW), (11, ⟨k0, l0 + 7, none⟩, I a0.kH), (11, ⟨k0, l0 + 8, none⟩, .slice a0.weights.a a0.weights.n a0.weights.k), (11, ⟨k0, l0 + 9, none⟩, .slice a0.row.a a0.row.n a0.row.k), (11, ⟨k0, l0 + 10, none⟩, .slice a0.col.a a0.col.n a0.col.k), (11, ⟨k0, l0 + 11, none⟩, I a0.shift), (11, ⟨k0, l0 + 12, none⟩, I a0.shift2), (11, ⟨k0, l0 + 13, none⟩, .slice a0.x.a a0.x.n a0.x.k), (11, ⟨k0, l0 + 14, none⟩, .slice a0.y.a a0.y.n a0.y.k), (11, ⟨k0, l0 + 15, none⟩, I a0.bins), (11, ⟨k0, l0 + 16, none⟩, .slice a0.ops.a a0.ops.n a0.ops.k), (11, ⟨k0, l0 + 17, none⟩, I a0.max_)] [(true, [0, 2, 3]), (true, [4]), (true, [6]), (true, [1]), (true, [5]), (true, [7]), (true, [8]), (true, [9]), (true, [10]), (true, [11]), (false, [12]), (false, [13])] rfl kr ⟨cI f0 2, .inr ((l1.up 1 rfl).cell f0 (k := 0) rfl), cI f0 2, .inr ((b0.up 3 rfl).cell f0 (k := 0) rfl), .inr ((b0.up 3 rfl).cell f0 (k := 1) rfl), .inr ((b0.up 3 rfl).cell f0 (k := 2) rfl), .inr ((b0.up 3 rfl).cell f0 (k := 3) rfl), .inr ((b0.up 3 rfl).cell f0 (k := 4) rfl), .inr ((b0.up 3 rfl).cell f0 (k := 5) rfl), .inr ((b0.up 3 rfl).cell f0 (k := 6) rfl), .inr ((b0.up 3 rfl).cell f0 (k := 7) rfl), .inr ((b0.up 3 rfl).cell f0 (k := 8) rfl), .inr ((b0.up 3 rfl).cell f0 (k := 9) rfl), .inr ((b0.up 3 rfl).cell f0 (k := 10) rfl), .inr ((b0.up 3 rfl).cell f0 (k := 11) rfl), .inr ((b0.up 3 rfl).cell f0 (k := 12) rfl), .inr ((b0.up 3 rfl).cell f0 (k := 13) rfl), .inr ((b0.up 3 rfl).cell f0 (k := 14) rfl), .inr ((b0.up 3 rfl).cell f0 (k := 15) rfl), .inr ((b0.up 3 rfl).cell f0 (k := 16) rfl), .inr ((b0.up 3 rfl).cell f0 (k := 17) rfl), trivial⟩ ?_
 have x2 := f0.drew
 refine wU [0, 2, 3] <| wY (.pointer (some ⟨j1, k1, none⟩)) rfl (fun w _ => Y_idx (a := p0) (i := (i : Int)) (len := n0) (cap := q0) rfl runUnderlying22 sizeOf3 kr kr v2) <| wU [6] <| wLd (.slice p.stages.a p.stages.n p.stages.k) 0 isAgg26 <| wLd (I c0) 1 isAgg3 <| wLd (.slice p.inputs.a p.inputs.n p.inputs.k) 2 isAgg25 <| wU [8] <| wSub c0 (p.inputs.n : Int) <| wY (.pointer (some ⟨k0, l0, none⟩)) rfl (fun w _ => Y_idx (a := p.stages.a) (i := (c0 - (p.inputs.n : Int))) (len := p.stages.n) (cap := p.stages.k) rfl runUnderlying26 sizeOf53 kr kr w2) ?_
 refine wY (.agg (encStage a0).toArray) rfl (fun w hF => Y_loadF rfl (isAgg53 w) (sizeOf53 w) kr rfl ⟨hF 3 _ _ rfl, hF 4 _ _ rfl, hF 5 _ _ rfl, hF 6 _ _ rfl, hF 7 _ _ rfl, hF 8 _ _ rfl, hF 9 _ _ rfl, hF 10 _ _ rfl, hF 11 _ _ rfl, hF 12 _ _ rfl, hF 13 _ _ rfl, hF 14 _ _ rfl, hF 15 _ _ rfl, hF 16 _ _ rfl, hF 17 _ _ rfl, hF 18 _ _ rfl, hF 19 _ _ rfl, hF 20 _ _ rfl, trivial⟩) <| wO rfl <| sAlloc x2 zeroValue53 fun h0 _ i0 => ?_
 refine nilO ⟨⟨cI i0 3, .inr ((l1.up 2 rfl).cell i0 (k := 0) rfl), cI i0 3, .inr ((b0.up 4 rfl).cell i0 (k := 0) rfl), .inr ((b0.up 4 rfl).cell i0 (k := 1) rfl), .inr ((b0.up 4 rfl).cell i0 (k := 2) rfl), .inr ((b0.up 4 rfl).cell i0 (k := 3) rfl), .inr ((b0.up 4 rfl).cell i0 (k := 4) rfl), .inr ((b0.up 4 rfl).cell i0 (k := 5) rfl), .inr ((b0.up 4 rfl).cell i0 (k := 6) rfl), .inr ((b0.up 4 rfl).cell i0 (k := 7) rfl), .inr ((b0.up 4 rfl).cell i0 (k := 8) rfl), .inr ((b0.up 4 rfl).cell i0 (k := 9) rfl), .inr ((b0.up 4 rfl).cell i0 (k := 10) rfl), .inr ((b0.up 4 rfl).cell i0 (k := 11) rfl), .inr ((b0.up 4 rfl).cell i0 (k := 12) rfl), .inr ((b0.up 4 rfl).cell i0 (k := 13) rfl), .inr ((b0.up 4 rfl).cell i0 (k := 14) rfl), .inr ((b0.up 4 rfl).cell i0 (k := 15) rfl), .inr ((b0.up 4 rfl).cell i0 (k := 16) rfl), .inr ((b0.up 4 rfl).cell i0 (k := 17) rfl), trivial⟩, ?_⟩
 refine wO rfl <| sTl i0 0 (encStage a0) sizeOf53 fun _ y2 => nilO ⟨dA, ?_⟩
 refine wN <| tN <| sR <| pu1 <| sAlloc y2 zeroValue65 fun v0 _ z2 => sTl z2 0 [I 0, I 0, I 0] sizeOf65 fun _ m1 => nT <| cutA (γ := Shape) (fun yb => [(1, Pt m0 0), (5, .slice p0 n0 q0), (9, I (i : Int)), (7, .slice ays nys kys), (10, Pt h0 0), (11, Pt v0 0)]) (fun yb w => Sat W w ([(v0, .cells #[I yb.w, I yb.h, I yb.max_] 65 (0, 0))] :: [(h0, .cells (encStage a0).toArray 53 (0, 0))] :: cys :: z0 :: [(m0, .cells (encJob p).toArray 28 (0, 0))] :: H :: F) /\ (if twoP a0.v then shpAt ys a0.v.b else ⟨0, 0, 0⟩) = yb) ?_ ?_
 ·refine sR <| lA m1 1 0 18 (isAgg53 _) (sizeOf53 _) <| cR call47 (r15_two a0 ((hp.stagesD a0 (List.mem_of_getElem? u0)).of_mem (mem_flat1 5 (by rfl))) m1.flat) fun _ c1 => nT <| cD (a0.kind = 6 /\ ¬ a0.b = -1) (fun a3 => ?_) (fun a3 => ?_)
  rotate_left
  ·exact kT <| ⟨(⟨0, 0, 0⟩ : Shape), alA, c1, (if_neg (by unfold twoP; simp only [Stage.v]; assumption))⟩
  exact rE <| pu2 <| sL c1 1 2 (I a0.b) (isAgg3 _) <| sIdxO hOys a0.b (a0.b).toNat runUnderlying82 sizeOf65 fun o0 _ _ b3 c3 _ => sLpA c1 (c3.up 2 rfl) 0 [I o0.w, I o0.h, I o0.max_] (isAgg65 _) (sizeOf65 _) <| sTl c1 0 [I o0.w, I o0.h, I o0.max_] sizeOf65 fun _ d3 => nT <| ⟨o0, alA, d3, (by rw [if_pos (by unfold twoP; simp only [Stage.v]; assumption)]; unfold shpAt; rw [show ys[a0.v.b.toNat]? = some o0 from b3]; rfl)⟩
 rintro yb ρ _ ⟨d0, hyb⟩
 refine cutA (γ := Nat × Shape) (fun ⟨b9, ya⟩ => [(1, Pt m0 0), (5, .slice p0 n0 q0), (9, I (i : Int)), (7, .slice ays nys kys), (12, Pt b9 0), (13, I ((ofV a0.v ya yb).2))]) (fun ⟨b9, ya⟩ w => Sat W w ([(b9, .cells #[I ((ofV a0.v ya yb).1.w), I ((ofV a0.v ya yb).1.h), I ((ofV a0.v ya yb).1.max_)] 65 (0, 0))] :: [(v0, .cells #[I yb.w, I yb.h, I yb.max_] 65 (0, 0))] :: [(h0, .cells (encStage a0).toArray 53 (0, 0))] :: cys :: z0 :: [(m0, .cells (encJob p).toArray 28 (0, 0))] :: H :: F) /\ shpStep (p.inputs.n : Int) (p.stages.l.map Stage.v) c0 ys = ofV a0.v ya yb) ?_ ?_
 rotate_left
 ·rintro ⟨b9, ya⟩ ρ _ ⟨s0, hst⟩
  refine seqE <| sR <| pu2 <| nT <| cN ((ofV a0.v ya yb).2) 0 (fun e3 => ?_) (fun e3 => ?_)
  rotate_left
  ·refine seqE ?_
   obtain ⟨f3, n1, o1, g1, g3, h3⟩ := RdT.elem x0 (i : Int)
   rw [Int.toNat_natCast] at g1
   obtain rfl : c0 = f3 := Option.some.inj (t0.symm.trans g1)
   have hox_x_53 : (p.inputs.n : Int) <= c0 /\ c0 < (p.inputs.n : Int) + (p.stages.n : Int) := by have h := hordr c0 (List.mem_of_getElem? g1); simp only [Job.v] at h; omega
   refine drawE [] [(3, ⟨n1, o1, none⟩, I c0)] [(true, [0, 1]), (true, [2]), (true, [4, 5]), (true, [3]), (true, [6, 7])] rfl kr ⟨.inr ((g3.up 4 rfl).cell s0 (k := 0) rfl), trivial⟩ ?_
   have i3 := s0.drew
   refine wU [0, 1] <| wY (.pointer (some ⟨n1, o1, none⟩)) rfl (fun w _ => Y_idx (a := p0) (i := (i : Int)) (len := n0) (cap := q0) rfl runUnderlying22 sizeOf3 kr kr h3) <| wU [4, 5] <| wLd (I c0) 0 isAgg3 <| wU [6, 7] <| wN <| tN <| retE <| tR <| tK <| tR <| tK <| retT [nS, I c0, I ((ofV a0.v ya yb).2)] ?_
   have hk0 : shpV p.v = shpGo (p.inputs.n : Int) (p.stages.l.map Stage.v) ((ordV p.v).1) zs := by unfold shpV; rw [if_pos ‹_›, if_pos (by exact hall)]; rw [hzs, <- hms, <- hmi]; rfl
   have hk : shpV p.v = ([], c0, (ofV a0.v ya yb).2) := by rw [hk0, hS2, drop_at t0, shpGo, hst, if_neg ‹_›]
   have j3 := (i3.drops [0, 0, 0, 0, 0, 0])
   have k3 : Sat W _ ([] :: H :: F) := Sat.nilc j3
   have hl : ([] : List Shape) = (shpV p.v).1 := (by rw [hk])
   have hrd := RdT.nil (enc := encShape) (sz := 3) fR [[]]
   rw [hl] at hrd
   exact ⟨_, _, _, _, (by rw [hk]; rfl), hrd, k3⟩
  refine kT ?_
  obtain ⟨l3, p1, q1, h1, m3, n3⟩ := RdT.elem x0 (i : Int)
  rw [Int.toNat_natCast] at h1
  obtain rfl : c0 = l3 := Option.some.inj (t0.symm.trans h1)
  have hox_x_53 : (p.inputs.n : Int) <= c0 /\ c0 < (p.inputs.n : Int) + (p.stages.n : Int) := by have h := hordr c0 (List.mem_of_getElem? h1); simp only [Job.v] at h; omega
  obtain ⟨o3, p3, q3, r3, e5, s3, t3⟩ := OwnT.elem hOys c0
  refine drawE [7] [(4, ⟨p1, q1, none⟩, I c0), (5, ⟨b9, 0, none⟩, I ((ofV a0.v ya yb).1.w)), (5, ⟨b9, 1, none⟩, I ((ofV a0.v ya yb).1.h)), (5, ⟨b9, 2, none⟩, I ((ofV a0.v ya yb).1.max_))] [(true, [0, 1, 2]), (true, [3]), (true, [4]), (true, [5]), (true, [6]), (false, [7])] rfl kr ⟨.inr ((m3.up 4 rfl).cell s0 (k := 0) rfl), cI s0 0, cI s0 0, cI s0 0, trivial⟩ ?_
  have u3 := s0.drew
  refine wU [0, 1, 2] <| wY (.pointer (some ⟨p1, q1, none⟩)) rfl (fun w _ => Y_idx (a := p0) (i := (i : Int)) (len := n0) (cap := q0) rfl runUnderlying22 sizeOf3 kr kr n3) <| wLd (I c0) 0 isAgg3 <| wY (.agg #[I ((ofV a0.v ya yb).1.w), I ((ofV a0.v ya yb).1.h), I ((ofV a0.v ya yb).1.max_)]) rfl (fun w hF => Y_loadF rfl (isAgg65 w) (sizeOf65 w) kr rfl ⟨hF 1 _ _ rfl, hF 2 _ _ rfl, hF 3 _ _ rfl, trivial⟩) <| wY (.pointer (some ⟨p3, q3 + (c0).toNat * 3, none⟩)) rfl (fun w _ => Y_idx (a := ays) (i := c0) (len := nys) (cap := kys) rfl runUnderlying82 sizeOf65 kr kr s3) <| wO rfl ?_
  refine sStF u3 hOys t3 3 (c0).toNat 0 o3 (⟨(ofV a0.v ya yb).1.w, (ofV a0.v ya yb).1.h, (ofV a0.v ya yb).1.max_⟩ : Shape) r3 (.agg #[I ((ofV a0.v ya yb).1.w), I ((ofV a0.v ya yb).1.h), I ((ofV a0.v ya yb).1.max_)]) [I ((ofV a0.v ya yb).1.w), I ((ofV a0.v ya yb).1.h), I ((ofV a0.v ya yb).1.max_)] sizeOf65 fun _ v3 w3 x3 => nilO ⟨dA, ?_⟩
  refine wN <| bN <| tN <| rE <| pu1 <| sAdd (i : Int) 1 <| pu1 <| nT ?_
  exact ⟨(i + 1, (ys.set ((c0).toNat) (⟨(ofV a0.v ya yb).1.w, (ofV a0.v ya yb).1.h, (ofV a0.v ya yb).1.max_⟩ : Shape)), ays, nys, kys, v3), od, alA, (x3.drops [0, 0, 0]), om, by rw [hS2, drop_at t0, shpGo, hst, if_pos ‹_›], by simp; omega, w3⟩
 obtain ⟨j0, d1, e1, r1, w0, z3, g5⟩ := OwnT.elem hOys a0.a
 refine drawP [7, 11, 12] [(0, ⟨h0, 0, none⟩, I a0.kind), (0, ⟨h0, 1, none⟩, I a0.a), (0, ⟨h0, 2, none⟩, I a0.b), (0, ⟨h0, 3, none⟩, .bool a0.barrier), (0, ⟨h0, 4, none⟩, I a0.edgePolicy), (0, ⟨h0, 5, none⟩, I a0.edgeFill), (0, ⟨h0, 6, none⟩, I a0.kW), (0, ⟨h0, 7, none⟩, I a0.kH), (0, ⟨h0, 8, none⟩, .slice a0.weights.a a0.weights.n a0.weights.k), (0, ⟨h0, 9, none⟩, .slice a0.row.a a0.row.n a0.row.k), (0, ⟨h0, 10, none⟩, .slice a0.col.a a0.col.n a0.col.k), (0, ⟨h0, 11, none⟩, I a0.shift), (0, ⟨h0, 12, none⟩, I a0.shift2), (0, ⟨h0, 13, none⟩, .slice a0.x.a a0.x.n a0.x.k), (0, ⟨h0, 14, none⟩, .slice a0.y.a a0.y.n a0.y.k), (0, ⟨h0, 15, none⟩, I a0.bins), (0, ⟨h0, 16, none⟩, .slice a0.ops.a a0.ops.n a0.ops.k), (0, ⟨h0, 17, none⟩, I a0.max_), (3, ⟨h0, 1, none⟩, I a0.a), (5, ⟨d1, e1 + (a0.a).toNat * 3 + 0, none⟩, I j0.w), (5, ⟨d1, e1 + (a0.a).toNat * 3 + 1, none⟩, I j0.h), (5, ⟨d1, e1 + (a0.a).toNat * 3 + 2, none⟩, I j0.max_), (6, ⟨v0, 0, none⟩, I yb.w), (6, ⟨v0, 1, none⟩, I yb.h), (6, ⟨v0, 2, none⟩, I yb.max_)] (Plan.sts [1, 2] <| Plan.sts [0] <| Plan.sts [3] <| Plan.sts [4] <| Plan.sts [5] <| Plan.sts [6] <| .fk 7 11 (Plan.sts [8] <| Plan.sts [9] <| Plan.sts [10] <| .ef 11 <| .ef 12 <| Plan.sts [13] <| .fin) (.ef 7 <| Plan.sts [8] <| Plan.sts [9] <| Plan.sts [10] <| .ef 12 <| Plan.sts [13] <| .fin)) rfl kr ⟨cI d0 1, cI d0 1, cI d0 1, cI d0 1, cI d0 1, cI d0 1, cI d0 1, cI d0 1, cI d0 1, cI d0 1, cI d0 1, cI d0 1, cI d0 1, cI d0 1, cI d0 1, cI d0 1, cI d0 1, cI d0 1, cI d0 1, .inr ((w0.up 2 rfl).cell d0 (k := 0) rfl), .inr ((w0.up 2 rfl).cell d0 (k := 1) rfl), .inr ((w0.up 2 rfl).cell d0 (k := 2) rfl), cI d0 0, cI d0 0, cI d0 0, trivial⟩ ?_
 have s1 := d0.drew
 refine qU [1, 2] <| qY (.agg (encStage a0).toArray) rfl (fun w hF => Y_loadF rfl (isAgg53 w) (sizeOf53 w) kr rfl ⟨hF 0 _ _ rfl, hF 1 _ _ rfl, hF 2 _ _ rfl, hF 3 _ _ rfl, hF 4 _ _ rfl, hF 5 _ _ rfl, hF 6 _ _ rfl, hF 7 _ _ rfl, hF 8 _ _ rfl, hF 9 _ _ rfl, hF 10 _ _ rfl, hF 11 _ _ rfl, hF 12 _ _ rfl, hF 13 _ _ rfl, hF 14 _ _ rfl, hF 15 _ _ rfl, hF 16 _ _ rfl, hF 17 _ _ rfl, trivial⟩) <| qLd (I a0.a) 18 isAgg3 <| qY (.pointer (some ⟨d1, e1 + (a0.a).toNat * 3, none⟩)) rfl (fun w _ => Y_idx (a := ays) (i := a0.a) (len := nys) (cap := kys) rfl runUnderlying82 sizeOf65 kr kr z3) ?_
 refine qY (.agg #[I j0.w, I j0.h, I j0.max_]) rfl (fun w hF => Y_loadF rfl (isAgg65 w) (sizeOf65 w) kr rfl ⟨hF 19 _ _ rfl, hF 20 _ _ rfl, hF 21 _ _ rfl, trivial⟩) <| qY (.agg #[I yb.w, I yb.h, I yb.max_]) rfl (fun w hF => Y_loadF rfl (isAgg65 w) (sizeOf65 w) kr rfl ⟨hF 22 _ _ rfl, hF 23 _ _ rfl, hF 24 _ _ rfl, trivial⟩) <| qF ?_ ?_
 ·refine qO rfl <| cR call77 (r15_of a0 j0 yb ((hp.stagesD a0 (List.mem_of_getElem? u0)).of_mem (mem_flat1 5 (by rfl))) s1.flat) fun _ t1 => nilO ⟨⟨dI, dI, dI, dI, dI, dI, dI, dI, dI, dI, dI, dI, dI, dI, dI, dI, dI, dI, cI t1 1, dI, dI, dI, dI, dI, dI, trivial⟩, ?_⟩
  refine qU [8] <| qU [9] <| qU [10] <| qO rfl <| sAlloc t1 zeroValue65 fun a4 _ u1 => nilO ⟨⟨dI, dI, dI, dI, dI, dI, dI, dI, dI, dI, dI, dI, dI, dI, dI, dI, dI, dI, cI u1 2, dI, dI, dI, dI, dI, dI, trivial⟩, ?_⟩
  refine qO rfl <| sTl u1 0 [I ((ofV a0.v j0 yb).1.w), I ((ofV a0.v j0 yb).1.h), I ((ofV a0.v j0 yb).1.max_)] sizeOf65 fun _ b4 => nilO ⟨dA, ?_⟩
  refine qU [13] <| qN <| tN ?_
  have hstg : stgAt (p.stages.l.map Stage.v) (p.inputs.n : Int) c0 = a0.v := by unfold stgAt; rw [map_at (f := Stage.v) u0]; rfl
  have hsa3 : shpAt ys a0.v.a = j0 := by unfold shpAt; rw [show ys[a0.v.a.toNat]? = some j0 from r1]; rfl
  have hsb3 := hyb
  have hst : shpStep (p.inputs.n : Int) (p.stages.l.map Stage.v) c0 ys = ofV a0.v j0 yb := by unfold shpStep; rw [hstg, hsa3, hsb3]
  exact ⟨(a4, j0), alA, b4, hst⟩
 refine qO rfl <| sAlloc s1 zeroValue65 fun c4 _ e0 => nilO ⟨⟨cI e0 2, cI e0 2, cI e0 2, cI e0 2, cI e0 2, cI e0 2, cI e0 2, cI e0 2, cI e0 2, cI e0 2, cI e0 2, cI e0 2, cI e0 2, cI e0 2, cI e0 2, cI e0 2, cI e0 2, cI e0 2, cI e0 2, .inr ((w0.up 3 rfl).cell e0 (k := 0) rfl), .inr ((w0.up 3 rfl).cell e0 (k := 1) rfl), .inr ((w0.up 3 rfl).cell e0 (k := 2) rfl), cI e0 1, cI e0 1, cI e0 1, trivial⟩, ?_⟩
 refine qO rfl <| cR call77 (r15_of a0 j0 yb ((hp.stagesD a0 (List.mem_of_getElem? u0)).of_mem (mem_flat1 6 (by rfl))) e0.flat) fun _ v1 => nilO ⟨⟨dI, dI, dI, dI, dI, dI, dI, dI, dI, dI, dI, dI, dI, dI, dI, dI, dI, dI, cI v1 2, dI, dI, dI, dI, dI, dI, trivial⟩, ?_⟩
 refine qU [8] <| qU [9] <| qU [10] <| qO rfl <| sTl v1 0 [I ((ofV a0.v j0 yb).1.w), I ((ofV a0.v j0 yb).1.h), I ((ofV a0.v j0 yb).1.max_)] sizeOf65 fun _ d4 => nilO ⟨dA, ?_⟩
 refine qU [13] <| qN <| tN ?_
 have hstg : stgAt (p.stages.l.map Stage.v) (p.inputs.n : Int) c0 = a0.v := by unfold stgAt; rw [map_at (f := Stage.v) u0]; rfl
 have hsa3 : shpAt ys a0.v.a = j0 := by unfold shpAt; rw [show ys[a0.v.a.toNat]? = some j0 from r1]; rfl
 have hsb3 := hyb
 have hst : shpStep (p.inputs.n : Int) (p.stages.l.map Stage.v) c0 ys = ofV a0.v j0 yb := by unfold shpStep; rw [hstg, hsa3, hsb3]
 exact ⟨(c4, j0), alA, d4, hst⟩
theorem r17_checkj (p:Job) (hp:Job.Ok [H] p) (hb:p.inputs.n<=1000000/\p.stages.n<=1000000/\p.outputs.n<=1000000) (hS:Sat W w (H::F)):
  Ro prog 45 #[.agg (encJob p).toArray] (.tuple #[I ((shpV p.v).2.1),I ((shpV p.v).2.2)]) W w (H::F):=by
 have hl_p_inputs:=hp.inputs.le;have hn_p_inputs:=hp.inputs.len
 have hl_p_stages:=hp.stages.le;have hn_p_stages:=hp.stages.len
 have hl_p_outputs:=hp.outputs.le;have hn_p_outputs:=hp.outputs.len
 refine callsA 15 func45 rfl<|sR<|sBox hS (.agg (encJob p).toArray) (encJob p).toArray fun _ _ a0=>pu2<|zS<|lA a0 0 0 4 (isAgg28 _) (sizeOf28 _)<|cX call96 (r17_shapes p (hp.of_mem (mem_flat1 1 (by rfl))) (od) a0.flat) ?_
 rintro _ _ ⟨_,_,_,_,rfl,b0,c0⟩
 have d0:=c0.unflat1
 have hn_az_7:=b0.len;have hl_az_7:=b0.le
 exact pu7<|zS<|pu4<|zE<|retT [I ((shpV p.v).2.1),I ((shpV p.v).2.2)]<|⟨rfl,(d0.drops [0,0])⟩
end Go.Proofs.YtmlhcafjelkjfaaGreat
