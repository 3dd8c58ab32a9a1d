import Derived.Test.YtmlhcafjelkjfaaGreatP3Ab
import Derived.WalkKit
import Derived.Deep.Quiet
import Derived.KernelRfl
import Derived.Laws.BytesString
import Derived.Laws.Shifts
import Derived.Laws.IdiomStrings
import Derived.Test.YtmlhcafjelkjfaaGreatProg
import Derived.Test.YtmlhcafjelkjfaaGreatP3Gr
namespace Go.Proofs.YtmlhcafjelkjfaaGreat
open Go Go.E Go.Proofs.Tryz
set_option linter.all false
set_option maxRecDepth 100000
set_option maxHeartbeats 2000000
variable {W w:World} {H:Chunk} {F:List Chunk}
structure Rct where
  x0:Int
  y0:Int
  x1:Int
  y1:Int
  deriving DecidableEq
def encRct (x:Rct):List Value:=[.int .i64 x.x0, .int .i64 x.y0, .int .i64 x.x1, .int .i64 x.y1]
def insU (n:Int):List Int->List Int
  |[]=>[n]
  |x::l=>if n<x then n::x::l else if n=x then x::l else x::insU n l
def canonV (l:List Int):List Int:=l.foldl (fun a n=>insU n a) []
def uptoV (n:Nat):List Int:=(List.range n).map fun (i:Nat)=>(i:Int)
def ceilV (a b:Int):Int:=if 0<=a/\1<=b then (if a%b=0 then a/b else a/b+1) else 0
def fineP (w h tw th:Int):Prop:=(1<=w/\w<=128)/\(1<=h/\h<=128)/\(1<=tw/\tw<=64)/\1<=th/\th<=64
instance (w h tw th:Int):Decidable (fineP w h tw th):=by unfold fineP;infer_instance
def colsN (w h tw th:Int):Int:=if fineP w h tw th then ceilV w tw else 0
def rowsN (w h tw th:Int):Int:=if fineP w h tw th then ceilV h th else 0
def tileV (w h tw th i:Int):Rct:=⟨i%colsN w h tw th*tw,i/colsN w h tw th*th,min (i%colsN w h tw th*tw+tw) w,min (i/colsN w h tw th*th+th) h⟩
def tilN (w h tw th:Int):Nat:=(colsN w h tw th*rowsN w h tw th).toNat
def idxV (i n p:Int):Option Int:=
  if 1<=n/\n<=128 then
    (if p=0 then some (min (max i 0) (n-1))
    else if p=1 then some (if n<=i%(2*n) then 2*n-1-i%(2*n) else i%(2*n))
    else if p=2 then some (i%n)
    else if p=3/\0<=i/\i<n then some i else none)
  else none
def kerP (n:Int):Prop:=1<=n/\n<=9
instance (n:Int):Decidable (kerP n):=by unfold kerP;infer_instance
def tapP (t:TapV):Bool:=decide (t.weights.length<=8/\-128<=t.first/\t.first<=256)
def accV (s:StageV):Prop:=fieldsP s/\(s.kind=1->kerP s.kW/\kerP s.kH)/\(s.kind=2->kerP s.row.length/\kerP s.col.length)/\(s.kind=3->s.x.all tapP=true/\s.y.all tapP=true)
instance (s:StageV):Decidable (accV s):=by unfold accV;infer_instance
def winF (kd k size:Int) (t:List TapV):Int:=if kd=1\/kd=2 then k-size/2 else if kd=3 then (match t[k.toNat]? with|some x=>x.first|none=>0) else k
def winC (kd k size:Int) (t:List TapV):Int:=if kd=1\/kd=2 then size else if kd=3 then (match t[k.toNat]? with|some x=>(x.weights.length:Int)|none=>0) else 1
def polV (s:StageV):Int:=if 3<s.kind then 3 else s.edgePolicy
def hitB (s:StageV) (n k size:Int) (t:List TapV) (m:Int):Bool:=(List.range (winC s.kind k size t).toNat).any fun j=>decide (idxV (winF s.kind k size t+j) n (polV s)=some m)
def needB (s:StageV) (n a b size:Int) (t:List TapV) (m:Int):Bool:=(List.range (b-a).toNat).any fun j=>hitB s n (a+j) size t m
def lenP (n a b:Int):Prop:=(1<=n/\n<=128)/\(0<=a/\a<=128)/\0<=b/\b<=128
instance (n a b:Int):Decidable (lenP n a b):=by unfold lenP;infer_instance
def needV (s:StageV) (n a b size:Int) (t:List TapV):List Int:=if lenP n a b/\accV s then (uptoV n.toNat).filter (needB s n a b size t) else []
def colsV (s:StageV) (w a b:Int):List Int:=needV s w a b (if s.kind=2 then s.row.length else s.kW) s.x
def rowsV (s:StageV) (h a b:Int):List Int:=needV s h a b (if s.kind=2 then s.col.length else s.kH) s.y
def someV (l:List Int) (a b:Int):Bool:=l.any fun v=>decide (a<=v/\v<b)
def tilesV (s:StageV) (w h tw th:Int) (r:Rct):List Int:=
  (uptoV (tilN w h tw th)).filter fun i=>someV (colsV s w r.x0 r.x1) (i%colsN w h tw th*tw) ((i%colsN w h tw th+1)*tw)&&someV (rowsV s h r.y0 r.y1) (i/colsN w h tw th*th) ((i/colsN w h tw th+1)*th)
def belongP (kind part:Int):Prop:=(kind=4/\(part=1\/part=2))\/(¬kind=4/\part=0)
instance (k p:Int):Decidable (belongP k p):=by unfold belongP;infer_instance
def cellsV (s:StageV) (h:Int) (r:Rct):Int:=
  if s.kind=1 then (r.x1-r.x0+s.kW-1)*(r.y1-r.y0+s.kH-1)
  else if s.kind=2 then (r.x1-r.x0)*(r.y1-r.y0+s.col.length-1)
  else if s.kind=3 then (r.x1-r.x0)*(rowsV s h r.y0 r.y1).length
  else if s.kind=4 then s.bins
  else if s.kind=5 then r.x1-r.x0+(r.y1-r.y0)+1
  else r.x1-r.x0
def alnV (n:Int):Int:=(n+15)/16*16
def bytV (s:StageV) (h:Int) (r:Rct):Int:=alnV (8*cellsV s h r)
def inP (r:Rct):Prop:=0<=r.x0/\r.x0<r.x1/\r.x1<=128/\0<=r.y0/\r.y0<r.y1/\r.y1<=128
instance (r:Rct):Decidable (inP r):=by unfold inP;infer_instance
structure Lay where
  ni:Int
  ss:List StageV
  sh:List Shape
  od:List Int
  tw:Int
  th:Int
def Lay.st (L:Lay) (n:Int):StageV:=stgAt L.ss L.ni n
def Lay.cut (L:Lay) (n:Int):Shape:=if (L.st n).kind=4 then shpAt L.sh (L.st n).a else shpAt L.sh n
def Lay.nx (L:Lay) (n:Int):Int:=colsN (L.cut n).w (L.cut n).h L.tw L.th
def Lay.ny (L:Lay) (n:Int):Int:=rowsN (L.cut n).w (L.cut n).h L.tw L.th
def Lay.cnt (L:Lay) (n:Int):Int:=if (L.st n).kind=4 then L.nx n*L.ny n+1 else L.nx n*L.ny n
def firstG (f:Int->Int):List Int->Int->Int
  |[],_=>0
  |x::l,n=>if x=n then 0 else f x+firstG f l n
def Lay.first (L:Lay) (n:Int):Int:=firstG L.cnt L.od n
def Lay.srcDeps (L:Lay) (s:StageV) (r:Rct) (x:Int):List Int:=
  if x<L.ni then [] else if s.barrier=true then (uptoV (L.cnt x).toNat).map (L.first x+·)
  else if (L.st x).kind=4 then [L.first x+L.cnt x-1]
  else (tilesV s (shpAt L.sh x).w (shpAt L.sh x).h L.tw L.th r).map (L.first x+·)
def Lay.needs (L:Lay) (s:StageV) (r:Rct):List Int:=(srcs s).flatMap (L.srcDeps s r)
def Lay.own (L:Lay) (n i:Int):List Int:=if (L.st n).kind=5 then (if 0<i%L.nx n then [L.first n+i-1] else [])++(if L.nx n<=i then [L.first n+i-L.nx n] else []) else []
def Lay.task (L:Lay) (n part:Int) (r:Rct) (deps:List Int):TaskV:=
  ⟨n,part,r.x0,r.y0,r.x1,r.y1,canonV deps,if part=2 then 1 else r.y1-r.y0,bytV (L.st n) (shpAt L.sh (L.st n).a).h r⟩
def Lay.part (L:Lay) (n:Int):Int:=if (L.st n).kind=4 then 1 else 0
def Lay.tile (L:Lay) (n i:Int):Rct:=tileV (L.cut n).w (L.cut n).h L.tw L.th i
def Lay.tileT (L:Lay) (n i:Int):TaskV:=L.task n (L.part n) (L.tile n i) (L.needs (L.st n) (L.tile n i)++L.own n i)
def Lay.mergeT (L:Lay) (n:Int):TaskV:=L.task n 2 ⟨0,0,(L.st n).bins,1⟩ ((uptoV (L.nx n*L.ny n).toNat).map (L.first n+·))
def Lay.tasks (L:Lay) (n:Int):List TaskV:=(uptoV (L.nx n*L.ny n).toNat).map (L.tileT n)++(if (L.st n).kind=4 then [L.mergeT n] else [])
def Lay.all (L:Lay):List TaskV:=L.od.flatMap L.tasks
def tileP (tw th:Int):Prop:=(1<=tw/\tw<=64)/\1<=th/\th<=64
instance (tw th:Int):Decidable (tileP tw th):=by unfold tileP;infer_instance
def Lay.cells (L:Lay):Int:=(L.sh.map fun m=>m.w*m.h).sum+(L.od.map fun n=>if (L.st n).kind=4 then (L.st n).bins*(L.cnt n-1) else 0).sum
theorem ceil_bd {a b:Int} (ha:1<=a/\a<=128) (hb:1<=b):1<=ceilV a b/\ceilV a b<=128:=by
 unfold ceilV
 rw [if_pos ⟨om,hb⟩]
 have h1:=Int.mul_ediv_add_emod a b
 have h2:=Int.emod_nonneg a (by omega:b≠0)
 have h3:=Int.emod_lt_of_pos a (by omega:0<b)
 have h4:a/b<=a:=Int.ediv_le_self _ om
 have h5:0<=a/b:=Int.ediv_nonneg om om
 split
 ·have:a/b≠0:=fun h=>by rw [h,Int.mul_zero] at h1;omega
  omega
 ·have h6:a/b<128:=by
   by_cases h:a/b=128
   ·have hb1:b=1:=by
     by_cases hb1:b=1
     ·exact hb1
     ·have:=Int.mul_le_mul_of_nonneg_right (show (2:Int)<=b by omega) h5;omega
    subst hb1;simp at*
   ·omega
  omega
theorem cols_bd {w h tw th:Int} (hf:fineP w h tw th):(1<=colsN w h tw th/\colsN w h tw th<=128)/\1<=rowsN w h tw th/\rowsN w h tw th<=128:=by
  unfold colsN rowsN
  rw [if_pos hf,if_pos hf]
  exact ⟨ceil_bd hf.1 hf.2.2.1.1,ceil_bd hf.2.1 hf.2.2.2.1⟩
theorem ceil_ge {a b:Int} (ha:0<=a) (hb:1<=b):a<=ceilV a b*b:=by
  unfold ceilV
  rw [if_pos ⟨ha,hb⟩]
  have h1:=Int.mul_ediv_add_emod a b
  have h3:=Int.emod_lt_of_pos a (by omega:0<b)
  split
  · rw [Int.mul_comm (a/b) b];omega
  · rw [Int.add_mul,Int.one_mul,Int.mul_comm (a/b) b];omega
theorem tile_ix {i nx ny:Int} (hn:1<=nx) (hi:0<=i) (h:i<nx*ny):(0<=i%nx/\i%nx<nx)/\0<=i/nx/\i/nx<ny/\i=i/nx*nx+i%nx:=by
  have h1:=Int.mul_ediv_add_emod i nx
  have h2:=Int.emod_nonneg i (by omega:nx≠0)
  refine ⟨⟨h2,(Int.emod_lt_of_pos i (by omega:0<nx))⟩,Int.ediv_nonneg hi (by omega),?_,by rw [Int.mul_comm];omega⟩
  exact Int.ediv_lt_of_lt_mul (by omega) (by rw [Int.mul_comm];exact h)
theorem mod_emod {i n:Int} (hn:0<n):(if i.tmod n<0 then i.tmod n+n else i.tmod n)=i%n:=by
  have h1:=Int.tmod_lt_of_pos i hn
  have h2:=Int.lt_tmod_of_pos i hn
  have e:i%n=i.tmod n%n:=by
    have h:=Int.tmod_add_mul_tdiv i n
    calc i%n=(i.tmod n+n*i.tdiv n)%n:=by rw [h]
      _=i.tmod n%n:=by rw [Int.add_mul_emod_self_left]
  rw [e]
  split
  · rw [<-Int.add_emod_right,Int.emod_eq_of_lt (by omega) (by omega)]
  · rw [Int.emod_eq_of_lt (by omega) (by omega)]
theorem idx_bd {i n p c:Int} (h:idxV i n p=some c):0<=c/\c<n:=by
  unfold idxV at h
  split at h
  · rename_i hn
    have h1:=Int.emod_nonneg i (by omega:n≠0)
    have h2:=Int.emod_lt_of_pos i (by omega:0<n)
    have h3:=Int.emod_nonneg i (by omega:2*n≠0)
    have h4:=Int.emod_lt_of_pos i (by omega:0<2*n)
    repeat' split at h
    all_goals first
      |(simp only [Option.some.injEq] at h;omega)
      |cases h
  · cases h
def MkB (N:Nat) (ks:List Bool) (f:Int->Bool):Prop:=ks.length=N/\∀m:Nat,m<N->ks[m]?=some (f m)
theorem MkB.zero {N:Nat} {f:Int->Bool} (hf:∀m,f m=false):MkB N (List.replicate N false) f:=by
  refine ⟨by simp,fun m hm=>?_⟩
  rw [List.getElem?_replicate,if_pos hm,hf]
theorem MkB.at {N:Nat} {ks:List Bool} {f:Int->Bool} {m:Nat} {x:Bool} (h:MkB N ks f) (hx:ks[m]?=some x):x=f m:=by
  have hm:=(List.getElem?_eq_some_iff.1 hx).1
  have:=h.2 m (by rw [<-h.1];exact hm)
  rw [hx] at this;exact Option.some.inj this
theorem MkB.set {N:Nat} {ks:List Bool} {f g:Int->Bool} {c:Int} (h:MkB N ks f) (hc:0<=c/\c<N) (e:∀m:Int,g m=(f m||decide (c=m))):MkB N (ks.set c.toNat true) g:=by
  refine ⟨by rw [List.length_set];exact h.1,fun m hm=>?_⟩
  rw [e,List.getElem?_set]
  split
  · rename_i hcm
    rw [if_pos (by rw [h.1];omega),decide_eq_true (show c=(m:Int) by omega),Bool.or_true]
  · rw [h.2 m hm,decide_eq_false (show ¬c=(m:Int) by omega),Bool.or_false]
theorem any_range_succ (k:Nat) (f:Nat->Bool):(List.range (k+1)).any f=((List.range k).any f||f k):=by rw [List.range_succ,List.any_append];simp
theorem MkB.one {N:Nat} {ks:List Bool} {A:Int->Bool} {s:StageV} {n:Int} {k:Nat} {F:Int} {c:Int} (h:MkB N ks (fun m=>A m||(List.range k).any fun j=>decide (idxV (F+j) n (polV s)=some m))) (he:idxV (F+k) n (polV s)=some c) (hc:0<=c/\c<N):
    MkB N (ks.set c.toNat true) (fun m=>A m||(List.range (k+1)).any fun j=>decide (idxV (F+j) n (polV s)=some m)):=by
  refine h.set hc (fun m=>?_)
  rw [any_range_succ,he,<-Bool.or_assoc]
  congr 1
  exact decide_eq_decide.2 ⟨fun h=>Option.some.inj h,fun h=>by rw [h]⟩
theorem grid_ix {nx i j:Int} (hj:0<=j/\j<nx):(i*nx+j)%nx=j/\(i*nx+j)/nx=i:=by
  have hx:0<nx:=by omega
  refine ⟨?_,?_⟩
  · rw [Int.add_comm,Int.add_mul_emod_self_right,Int.emod_eq_of_lt hj.1 hj.2]
  · rw [Int.add_comm,Int.add_mul_ediv_right _ _ (by omega),Int.ediv_eq_zero_of_lt hj.1 hj.2,Int.zero_add]
def cooP (n:Int):Prop:=-1048576<=n/\n<=1048576
instance (n:Int):Decidable (cooP n):=by unfold cooP;infer_instance
def rvP (r:Rct):Prop:=(r.x0=0/\r.y0=0/\r.x1=0/\r.y1=0)\/(cooP r.x0/\cooP r.y0/\cooP r.x1/\cooP r.y1/\r.x0<r.x1/\r.y0<r.y1)
instance (r:Rct):Decidable (rvP r):=by unfold rvP;infer_instance
theorem eqve45 (w:World) (a0 a1 a2 a3 b0 b1 b2 b3:Int):∀x y,((do eqGuard .eql 45 x y (.agg #[.int .i64 a0, .int .i64 a1, .int .i64 a2, .int .i64 a3]) (.agg #[.int .i64 b0, .int .i64 b1, .int .i64 b2, .int .i64 b3]);binOp .eql 45 (.agg #[.int .i64 a0, .int .i64 a1, .int .i64 a2, .int .i64 a3]) (.agg #[.int .i64 b0, .int .i64 b1, .int .i64 b2, .int .i64 b3])):Sem Value).run prog w= .ok (.bool ((a0==b0)&&(a1==b1)&&(a2==b2)&&(a3==b3))) w:=by
  intro x y
  simp [go_sem,run_eqGuard_agg,run_eql_struct,run_equalIn_agg]
  by_cases h0:a0=b0<;>by_cases h1:a1=b1<;>by_cases h2:a2=b2<;>by_cases h3:a3=b3<;>simp [*]
theorem p2_coord (n:Int) (hS:Sat W w (H::F)):
  Ro prog 163 #[I n] (.bool (decide (-(1048576:Int)<=n/\n<=1048576))) W w (H::F):=by
 refine callsA 9 func163 rfl<|sR<|pu1<|zS<|pu3<|sD 5 (-1048576<=n) (fun a0=>?_) (fun a0=>?_)
 rotate_left
 ·exact pu4<|zE<|retT [.bool false]<|⟨rB bq,hS⟩
 exact pu4<|zE<|retT [.bool (decide ((n:Int)<=1048576))]<|⟨rB bq,hS⟩
theorem p2_empty (r:Rct) (hS:Sat W w (H::F)):
  Ro prog 65 #[.agg (encRct r).toArray] (.bool (decide (r.x0=0/\r.y0=0/\r.x1=0/\r.y1=0))) W w (H::F):=by
 refine callsA 6 func65 rfl<|sR<|sBox hS (.agg (encRct r).toArray) (encRct r).toArray fun _ _ a0=>pu1<|zS<|lA a0 0 0 4 (isAgg45 _) (sizeOf45 _)<|pu1<|stepY (.bool (((r.x0:Int)==0)&&((r.y0:Int)==0)&&((r.x1:Int)==0)&&((r.y1:Int)==0))) rfl rfl (Y_eqS rfl kr kr (eqve45 _ r.x0 r.y0 r.x1 r.y1 0 0 0 0))<|pu1<|zE<|retT [.bool (((r.x0:Int)==0)&&((r.y0:Int)==0)&&((r.x1:Int)==0)&&((r.y1:Int)==0))] ?_
 have b0:=(a0.dropAt 0 rfl)
 exact ⟨rB bq,b0⟩
theorem p2_valid (r : Rct) (hS : Sat W w (H :: F)) :
  Ro prog 113 #[.agg (encRct r).toArray] (.bool (decide (rvP r))) W w (H :: F) := by
 refine callsA 37 func113 rfl <| sR <| sBox hS (.agg (encRct r).toArray) (encRct r).toArray fun _ _ f0 => pu1 <| zQ <| lA f0 0 0 4 (isAgg45 _) (sizeOf45 _) <| cR call65 (p2_empty r f0.flat) fun _ b0 => nT <| cD (r.x0 = 0 /\ r.y0 = 0 /\ r.x1 = 0 /\ r.y1 = 0) (fun g0 => ?_) (fun g0 => ?_)
 ·refine sR <| pu1 <| zR <| retT [.bool true] ?_
  have h0 := (b0.dropAt 0 rfl)
  refine ⟨rB ?_, h0⟩
  first | rfl | (rw [Bool.eq_iff_iff]; simp only [decide_eq_true_eq, beq_iff_eq, bne_iff_ne, ne_eq, Bool.not_eq_true', decide_eq_false_iff_not, true_iff, false_iff, iff_true, iff_false, Bool.false_eq_true, Bool.and_eq_true, Bool.or_eq_true, gt_iff_lt, ge_iff_le, rvP, cooP] <;> omega) | (rw [Bool.eq_iff_iff]; simp [rvP, cooP, *] <;> omega) | (simp_all; done)
 refine kS <| pu1 <| sL b0 0 0 (I r.x0) (isAgg3 _) <| cR call163 (p2_coord r.x0 b0.flat) fun _ c0 => pu1 <| sD 8 (-(1048576 : Int) <= r.x0 /\ r.x0 <= 1048576) (fun i0 => ?_) (fun i0 => ?_)
 rotate_left
 ·refine pu16 <| pu13 <| zE <| retT [.bool false] ?_
  have j0 := (c0.dropAt 0 rfl)
  refine ⟨rB ?_, j0⟩
  first | rfl | (rw [Bool.eq_iff_iff]; simp only [decide_eq_true_eq, beq_iff_eq, bne_iff_ne, ne_eq, Bool.not_eq_true', decide_eq_false_iff_not, true_iff, false_iff, iff_true, iff_false, Bool.false_eq_true, Bool.and_eq_true, Bool.or_eq_true, gt_iff_lt, ge_iff_le, rvP, cooP] <;> omega) | (rw [Bool.eq_iff_iff]; simp [rvP, cooP, *] <;> omega) | (simp_all; done)
 refine pu1 <| gY <| sL c0 0 1 (I r.y0) (isAgg3 _) <| gY <| cR call163 (p2_coord r.y0 c0.flat) fun _ d0 => pu2 <| sD 13 (-(1048576 : Int) <= r.y0 /\ r.y0 <= 1048576) (fun k0 => ?_) (fun k0 => ?_)
 rotate_left
 ·refine pu16 <| pu8 <| zE <| retT [.bool false] ?_
  have l0 := (d0.dropAt 0 rfl)
  refine ⟨rB ?_, l0⟩
  first | rfl | (rw [Bool.eq_iff_iff]; simp only [decide_eq_true_eq, beq_iff_eq, bne_iff_ne, ne_eq, Bool.not_eq_true', decide_eq_false_iff_not, true_iff, false_iff, iff_true, iff_false, Bool.false_eq_true, Bool.and_eq_true, Bool.or_eq_true, gt_iff_lt, ge_iff_le, rvP, cooP] <;> omega) | (rw [Bool.eq_iff_iff]; simp [rvP, cooP, *] <;> omega) | (simp_all; done)
 refine pu1 <| gY <| sL d0 0 2 (I r.x1) (isAgg3 _) <| gY <| cR call163 (p2_coord r.x1 d0.flat) fun _ e0 => pu2 <| sD 18 (-(1048576 : Int) <= r.x1 /\ r.x1 <= 1048576) (fun m0 => ?_) (fun m0 => ?_)
 rotate_left
 ·refine pu16 <| pu3 <| zE <| retT [.bool false] ?_
  have n0 := (e0.dropAt 0 rfl)
  refine ⟨rB ?_, n0⟩
  first | rfl | (rw [Bool.eq_iff_iff]; simp only [decide_eq_true_eq, beq_iff_eq, bne_iff_ne, ne_eq, Bool.not_eq_true', decide_eq_false_iff_not, true_iff, false_iff, iff_true, iff_false, Bool.false_eq_true, Bool.and_eq_true, Bool.or_eq_true, gt_iff_lt, ge_iff_le, rvP, cooP] <;> omega) | (rw [Bool.eq_iff_iff]; simp [rvP, cooP, *] <;> omega) | (simp_all; done)
 refine pu1 <| gY <| sL e0 0 3 (I r.y1) (isAgg3 _) <| gY <| cR call163 (p2_coord r.y1 e0.flat) fun _ a0 => pu2 <| sD 23 (-(1048576 : Int) <= r.y1 /\ r.y1 <= 1048576) (fun o0 => ?_) (fun o0 => ?_)
 rotate_left
 ·refine pu14 <| zE <| retT [.bool false] ?_
  have p0 := (a0.dropAt 0 rfl)
  refine ⟨rB ?_, p0⟩
  first | rfl | (rw [Bool.eq_iff_iff]; simp only [decide_eq_true_eq, beq_iff_eq, bne_iff_ne, ne_eq, Bool.not_eq_true', decide_eq_false_iff_not, true_iff, false_iff, iff_true, iff_false, Bool.false_eq_true, Bool.and_eq_true, Bool.or_eq_true, gt_iff_lt, ge_iff_le, rvP, cooP] <;> omega) | (rw [Bool.eq_iff_iff]; simp [rvP, cooP, *] <;> omega) | (simp_all; done)
 refine pu1 <| gY <| sL a0 0 0 (I r.x0) (isAgg3 _) <| pu1 <| gY <| sL a0 0 2 (I r.x1) (isAgg3 _) <| pu3 <| sD 30 (r.x0 < r.x1) (fun q0 => ?_) (fun q0 => ?_)
 rotate_left
 ·refine pu7 <| zE <| retT [.bool false] ?_
  have r0 := (a0.dropAt 0 rfl)
  refine ⟨rB ?_, r0⟩
  first | rfl | (rw [Bool.eq_iff_iff]; simp only [decide_eq_true_eq, beq_iff_eq, bne_iff_ne, ne_eq, Bool.not_eq_true', decide_eq_false_iff_not, true_iff, false_iff, iff_true, iff_false, Bool.false_eq_true, Bool.and_eq_true, Bool.or_eq_true, gt_iff_lt, ge_iff_le, rvP, cooP] <;> omega) | (rw [Bool.eq_iff_iff]; simp [rvP, cooP, *] <;> omega) | (simp_all; done)
 refine pu1 <| gY <| sL a0 0 1 (I r.y0) (isAgg3 _) <| pu1 <| gY <| sL a0 0 3 (I r.y1) (isAgg3 _) <| pu3 <| zE <| retT [.bool (decide (r.y0 < r.y1))] ?_
 have s0 := (a0.dropAt 0 rfl)
 refine ⟨rB ?_, s0⟩
 first | rfl | (rw [Bool.eq_iff_iff]; simp only [decide_eq_true_eq, beq_iff_eq, bne_iff_ne, ne_eq, Bool.not_eq_true', decide_eq_false_iff_not, true_iff, false_iff, iff_true, iff_false, Bool.false_eq_true, Bool.and_eq_true, Bool.or_eq_true, gt_iff_lt, ge_iff_le, rvP, cooP] <;> omega) | (rw [Bool.eq_iff_iff]; simp [rvP, cooP, *] <;> omega) | (simp_all; done)
theorem p3_mod (i:Int) (n:Int) (hn:1<=n/\n<=4611686018427387904) (hS:Sat W w (H::F)):
  Ro prog 208 #[I i,I n] (I (i%n)) W w (H::F):=by
 have hm1:=Int.tmod_lt_of_pos i (by omega:0<n);have hm2:=Int.lt_tmod_of_pos i (by omega:0<n)
 refine callsA 15 func208 rfl<|sR<|pu1<|zS<|pu2<|sRem i n<|pu1<|zQ<|pu2<|nT<|cD ((i.tmod n)<0) (fun a0=>?_) (fun a0=>?_)
 rotate_left
 ·refine kS<|pu2<|zE<|retT [I (i.tmod n)] ?_
  have hk:=mod_emod (i:=i) (n:=n) om
  rw [if_neg om] at hk
  exact ⟨by rw [<-hk];rfl,hS⟩
 refine rE<|pu2<|sAdd (i.tmod n) n<|pu1<|zS<|pu2<|zE<|retT [I ((i.tmod n)+n)] ?_
 have hk:=mod_emod (i:=i) (n:=n) om
 rw [if_pos om] at hk
 exact ⟨by rw [<-hk];rfl,hS⟩
theorem p3_index (i:Int) (n:Int) (p:Int) (hS:Sat W w (H::F)):
  Ro prog 182 #[I i,I n,I p] (.tuple #[I ((idxV i n p).getD 0), .bool ((idxV i n p).isSome)]) W w (H::F):=by
 refine callsA 53 func182 rfl<|sR<|pu2<|zQ<|pu3<|sD 11 (n<1) (fun b0=>?_) (fun b0=>?_)
 ·refine pu3<|zC<|pu2<|zR<|retT [I 0, .bool false] ?_
  have hk:idxV i n p=none:=by unfold idxV;(repeat' split)<;>first|rfl|(exfalso;omega)
  exact ⟨by rw [hk];rfl,hS⟩
 refine pu3<|nT<|cD (n>128) (fun c0=>?_) (fun c0=>?_)
 ·refine sR<|pu2<|zR<|retT [I 0, .bool false] ?_
  have hk:idxV i n p=none:=by unfold idxV;(repeat' split)<;>first|rfl|(exfalso;omega)
  exact ⟨by rw [hk];rfl,hS⟩
 refine kT<|seqE<|sR<|pu1<|nT<|blockE<|sR<|pu2<|nT<|cE p 0 (fun d0=>?_) (fun d0=>?_)
 ·refine sR<|pu1<|stepY (I (max i 0)) rfl rfl (Y_max2 i 0 rfl rfl kr kr)<|pu1<|sSub n 1<|stepY (I (min (max i 0) (n-1))) rfl rfl (Y_min2 (max i 0) (n-1) rfl rfl kr kr)<|pu2<|zB<|retT [I (min (max i 0) (n-1)), .bool true] ?_
  have hk:idxV i n p=some (min (max i 0) (n-1)):=by unfold idxV;(repeat' split)<;>first|rfl|(exfalso;omega)|(congr 1;omega)
  exact ⟨by rw [hk];rfl,hS⟩
 refine sR<|pu2<|nT<|cE p 1 (fun e0=>?_) (fun e0=>?_)
 ·refine sR<|pu2<|sMul 2 n<|cR call208 (p3_mod i (2*n) (od) hS.flat) fun _ a0=>?_
  have hme:=Int.emod_nonneg i (by omega:((2*n):Int)≠0);have hmf:=Int.emod_lt_of_pos i (by omega:(0:Int)<(2*n))
  refine pu1<|zQ<|pu3<|nT<|cD ((i%(2*n))>=n) (fun f0=>?_) (fun f0=>?_)
  rotate_left
  ·refine kS<|pu3<|zB<|retT [I (i%(2*n)), .bool true] ?_
   have hk:idxV i n p=some (i%(2*n)):=by unfold idxV;(repeat' split)<;>first|rfl|(exfalso;omega)|(congr 1;omega)
   exact ⟨by rw [hk];rfl,a0⟩
  refine rE<|pu1<|sMul 2 n<|sSub (2*n) 1<|pu1<|sSub ((2*n)-1) (i%(2*n))<|pu1<|zS<|pu3<|zB<|retT [I (((2*n)-1)-(i%(2*n))), .bool true] ?_
  have hk:idxV i n p=some (((2*n)-1)-(i%(2*n))):=by unfold idxV;(repeat' split)<;>first|rfl|(exfalso;omega)|(congr 1;omega)
  exact ⟨by rw [hk];rfl,a0⟩
 refine sR<|pu2<|nT<|cE p 2 (fun g0=>?_) (fun g0=>?_)
 ·refine sR<|pu2<|cR call208 (p3_mod i n (od) hS.flat) fun _ h0=>?_
  have hme:=Int.emod_nonneg i (by omega:(n:Int)≠0);have hmf:=Int.emod_lt_of_pos i (by omega:(0:Int)<n)
  refine pu2<|zB<|retT [I (i%n), .bool true] ?_
  have hk:idxV i n p=some (i%n):=by unfold idxV;(repeat' split)<;>first|rfl|(exfalso;omega)|(congr 1;omega)
  exact ⟨by rw [hk];rfl,h0⟩
 refine sR<|pu2<|nT<|cE p 3 (fun i0=>?_) (fun i0=>?_)
 rotate_left
 ·refine skipE<|bN<|tN<|sR<|pu2<|zE<|retT [I 0, .bool false] ?_
  have hk:idxV i n p=none:=by unfold idxV;(repeat' split)<;>first|rfl|(exfalso;omega)
  exact ⟨by rw [hk];rfl,hS⟩
 refine sR<|pu3<|sD 47 (0<=i) (fun j0=>?_) (fun j0=>?_)
 rotate_left
 ·refine pu4<|nT<|cFf<|skipE<|bN<|tN<|sR<|pu2<|zE<|retT [I 0, .bool false] ?_
  have hk:idxV i n p=none:=by unfold idxV;(repeat' split)<;>first|rfl|(exfalso;omega)
  exact ⟨by rw [hk];rfl,hS⟩
 refine pu4<|nT<|cD (i<n) (fun k0=>?_) (fun k0=>?_)
 rotate_left
 ·refine skipE<|bN<|tN<|sR<|pu2<|zE<|retT [I 0, .bool false] ?_
  have hk:idxV i n p=none:=by unfold idxV;(repeat' split)<;>first|rfl|(exfalso;omega)
  exact ⟨by rw [hk];rfl,hS⟩
 refine sR<|pu3<|zB<|retT [I i, .bool true] ?_
 have hk:idxV i n p=some i:=by unfold idxV;(repeat' split)<;>first|rfl|(exfalso;omega)|(congr 1;omega)
 exact ⟨by rw [hk];rfl,hS⟩
theorem r2_coord (n:Int) (hS:Sat W w (H::F)):
  Ro prog 134 #[I n] (.bool (decide (-(1048576:Int)<=n/\n<=1048576))) W w (H::F):=by
 refine callsA 9 func134 rfl<|sR<|pu1<|zS<|pu3<|sD 5 (n>=(-1048576)) (fun a0=>?_) (fun a0=>?_)
 rotate_left
 ·exact pu4<|zE<|retT [.bool false]<|⟨rB bq,hS⟩
 exact pu4<|zE<|retT [.bool (decide ((n:Int)<=1048576))]<|⟨rB bq,hS⟩
theorem r2_empty (r:Rct) (hS:Sat W w (H::F)):
  Ro prog 158 #[.agg (encRct r).toArray] (.bool (decide (r.x0=0/\r.y0=0/\r.x1=0/\r.y1=0))) W w (H::F):=by
 refine callsA 6 func158 rfl<|sR<|sBox hS (.agg (encRct r).toArray) (encRct r).toArray fun _ _ a0=>pu1<|zS<|lA a0 0 0 4 (isAgg45 _) (sizeOf45 _)<|pu1<|stepY (.bool (((r.x0:Int)==0)&&((r.y0:Int)==0)&&((r.x1:Int)==0)&&((r.y1:Int)==0))) rfl rfl (Y_eqS rfl kr kr (eqve45 _ r.x0 r.y0 r.x1 r.y1 0 0 0 0))<|pu1<|zE<|retT [.bool (((r.x0:Int)==0)&&((r.y0:Int)==0)&&((r.x1:Int)==0)&&((r.y1:Int)==0))] ?_
 have b0:=(a0.dropAt 0 rfl)
 exact ⟨rB bq,b0⟩
theorem r2_valid (r : Rct) (hS : Sat W w (H :: F)) :
  Ro prog 82 #[.agg (encRct r).toArray] (.bool (decide (rvP r))) W w (H :: F) := by
 refine callsA 40 func82 rfl <| sR <| sBox hS (.agg (encRct r).toArray) (encRct r).toArray fun _ _ b0 => pu1 <| zS <| lA b0 0 0 4 (isAgg45 _) (sizeOf45 _) <| pu1 <| stepY (.bool (((r.x0 : Int) == 0) && ((r.y0 : Int) == 0) && ((r.x1 : Int) == 0) && ((r.y1 : Int) == 0))) rfl rfl (Y_eqS rfl kr kr (eqve45 _ r.x0 r.y0 r.x1 r.y1 0 0 0 0)) <| pu1 ?_
 rcases Classical.em ((r.x0 : Int) = 0 /\ (r.y0 : Int) = 0 /\ (r.x1 : Int) = 0 /\ (r.y1 : Int) = 0) with c0 | c0
 ·refine sFix 6 _ true (show (((r.x0 : Int) == 0) && ((r.y0 : Int) == 0) && ((r.x1 : Int) == 0) && ((r.y1 : Int) == 0)) = true from by simpa [and_assoc] using c0) ?_
  refine pu16 <| pu16 <| pu2 <| zE <| retT [.bool true] ?_
  have g0 := (b0.dropAt 0 rfl)
  refine ⟨rB ?_, g0⟩
  first | rfl | (rw [Bool.eq_iff_iff]; simp only [decide_eq_true_eq, beq_iff_eq, bne_iff_ne, ne_eq, Bool.not_eq_true', decide_eq_false_iff_not, true_iff, false_iff, iff_true, iff_false, Bool.false_eq_true, Bool.and_eq_true, Bool.or_eq_true, gt_iff_lt, ge_iff_le, rvP, cooP] <;> omega) | (rw [Bool.eq_iff_iff]; simp [rvP, cooP, *] <;> omega) | (simp_all; done)
 refine sFix 6 _ false (show (((r.x0 : Int) == 0) && ((r.y0 : Int) == 0) && ((r.x1 : Int) == 0) && ((r.y1 : Int) == 0)) = false from by rw [<- Bool.not_eq_true]; intro h_; exact c0 (by simpa [and_assoc] using h_)) ?_
 refine pu1 <| gY <| sL b0 0 0 (I r.x0) (isAgg3 _) <| gY <| cR call134 (r2_coord r.x0 b0.flat) fun _ d0 => pu1 <| sD 10 (-(1048576 : Int) <= r.x0 /\ r.x0 <= 1048576) (fun h0 => ?_) (fun h0 => ?_)
 rotate_left
 ·refine pu16 <| pu14 <| zE <| retT [.bool false] ?_
  have i0 := (d0.dropAt 0 rfl)
  refine ⟨rB ?_, i0⟩
  first | rfl | (rw [Bool.eq_iff_iff]; simp only [decide_eq_true_eq, beq_iff_eq, bne_iff_ne, ne_eq, Bool.not_eq_true', decide_eq_false_iff_not, true_iff, false_iff, iff_true, iff_false, Bool.false_eq_true, Bool.and_eq_true, Bool.or_eq_true, gt_iff_lt, ge_iff_le, rvP, cooP] <;> omega) | (rw [Bool.eq_iff_iff]; simp [rvP, cooP, *] <;> omega) | (simp_all; done)
 refine pu1 <| gY <| sL d0 0 1 (I r.y0) (isAgg3 _) <| gY <| cR call134 (r2_coord r.y0 d0.flat) fun _ e0 => pu2 <| sD 15 (-(1048576 : Int) <= r.y0 /\ r.y0 <= 1048576) (fun j0 => ?_) (fun j0 => ?_)
 rotate_left
 ·refine pu16 <| pu9 <| zE <| retT [.bool false] ?_
  have k0 := (e0.dropAt 0 rfl)
  refine ⟨rB ?_, k0⟩
  first | rfl | (rw [Bool.eq_iff_iff]; simp only [decide_eq_true_eq, beq_iff_eq, bne_iff_ne, ne_eq, Bool.not_eq_true', decide_eq_false_iff_not, true_iff, false_iff, iff_true, iff_false, Bool.false_eq_true, Bool.and_eq_true, Bool.or_eq_true, gt_iff_lt, ge_iff_le, rvP, cooP] <;> omega) | (rw [Bool.eq_iff_iff]; simp [rvP, cooP, *] <;> omega) | (simp_all; done)
 refine pu1 <| gY <| sL e0 0 2 (I r.x1) (isAgg3 _) <| gY <| cR call134 (r2_coord r.x1 e0.flat) fun _ f0 => pu2 <| sD 20 (-(1048576 : Int) <= r.x1 /\ r.x1 <= 1048576) (fun l0 => ?_) (fun l0 => ?_)
 rotate_left
 ·refine pu16 <| pu4 <| zE <| retT [.bool false] ?_
  have m0 := (f0.dropAt 0 rfl)
  refine ⟨rB ?_, m0⟩
  first | rfl | (rw [Bool.eq_iff_iff]; simp only [decide_eq_true_eq, beq_iff_eq, bne_iff_ne, ne_eq, Bool.not_eq_true', decide_eq_false_iff_not, true_iff, false_iff, iff_true, iff_false, Bool.false_eq_true, Bool.and_eq_true, Bool.or_eq_true, gt_iff_lt, ge_iff_le, rvP, cooP] <;> omega) | (rw [Bool.eq_iff_iff]; simp [rvP, cooP, *] <;> omega) | (simp_all; done)
 refine pu1 <| gY <| sL f0 0 3 (I r.y1) (isAgg3 _) <| gY <| cR call134 (r2_coord r.y1 f0.flat) fun _ a0 => pu2 <| sD 25 (-(1048576 : Int) <= r.y1 /\ r.y1 <= 1048576) (fun n0 => ?_) (fun n0 => ?_)
 rotate_left
 ·refine pu15 <| zE <| retT [.bool false] ?_
  have o0 := (a0.dropAt 0 rfl)
  refine ⟨rB ?_, o0⟩
  first | rfl | (rw [Bool.eq_iff_iff]; simp only [decide_eq_true_eq, beq_iff_eq, bne_iff_ne, ne_eq, Bool.not_eq_true', decide_eq_false_iff_not, true_iff, false_iff, iff_true, iff_false, Bool.false_eq_true, Bool.and_eq_true, Bool.or_eq_true, gt_iff_lt, ge_iff_le, rvP, cooP] <;> omega) | (rw [Bool.eq_iff_iff]; simp [rvP, cooP, *] <;> omega) | (simp_all; done)
 refine pu1 <| gY <| sL a0 0 0 (I r.x0) (isAgg3 _) <| pu1 <| gY <| sL a0 0 2 (I r.x1) (isAgg3 _) <| pu3 <| sD 32 (r.x0 < r.x1) (fun p0 => ?_) (fun p0 => ?_)
 rotate_left
 ·refine pu8 <| zE <| retT [.bool false] ?_
  have q0 := (a0.dropAt 0 rfl)
  refine ⟨rB ?_, q0⟩
  first | rfl | (rw [Bool.eq_iff_iff]; simp only [decide_eq_true_eq, beq_iff_eq, bne_iff_ne, ne_eq, Bool.not_eq_true', decide_eq_false_iff_not, true_iff, false_iff, iff_true, iff_false, Bool.false_eq_true, Bool.and_eq_true, Bool.or_eq_true, gt_iff_lt, ge_iff_le, rvP, cooP] <;> omega) | (rw [Bool.eq_iff_iff]; simp [rvP, cooP, *] <;> omega) | (simp_all; done)
 refine pu1 <| gY <| sL a0 0 1 (I r.y0) (isAgg3 _) <| pu1 <| gY <| sL a0 0 3 (I r.y1) (isAgg3 _) <| pu4 <| zE <| retT [.bool (decide (r.y0 < r.y1))] ?_
 have r0 := (a0.dropAt 0 rfl)
 refine ⟨rB ?_, r0⟩
 first | rfl | (rw [Bool.eq_iff_iff]; simp only [decide_eq_true_eq, beq_iff_eq, bne_iff_ne, ne_eq, Bool.not_eq_true', decide_eq_false_iff_not, true_iff, false_iff, iff_true, iff_false, Bool.false_eq_true, Bool.and_eq_true, Bool.or_eq_true, gt_iff_lt, ge_iff_le, rvP, cooP] <;> omega) | (rw [Bool.eq_iff_iff]; simp [rvP, cooP, *] <;> omega) | (simp_all; done)
theorem r2_full (r:Rct) (hS:Sat W w (H::F)):
  Ro prog 102 #[.agg (encRct r).toArray] (.bool (decide (rvP r/\¬(r.x0=0/\r.y0=0/\r.x1=0/\r.y1=0)))) W w (H::F):=by
 refine callsA 10 func102 rfl<|sR<|sBox hS (.agg (encRct r).toArray) (encRct r).toArray fun _ _ b0=>pu1<|zS<|lA b0 0 0 4 (isAgg45 _) (sizeOf45 _)<|cR call82 (r2_valid r b0.flat) fun _ a0=>pu1<|sD 5 (rvP r) (fun c0=>?_) (fun c0=>?_)
 rotate_left
 ·exact pu5<|zE<|retT [.bool false]<|⟨rB bs,(a0.dropAt 0 rfl)⟩
 exact gY<|lA a0 0 0 4 (isAgg45 _) (sizeOf45 _)<|gY<|cR call158 (r2_empty r a0.flat) fun _ e0=>pu3<|zE<|retT [.bool (!decide (r.x0=0/\r.y0=0/\r.x1=0/\r.y1=0))]<|⟨rB bs,(e0.dropAt 0 rfl)⟩
theorem r3_mod (i:Int) (n:Int) (hn:1<=n/\n<=4611686018427387904) (hS:Sat W w (H::F)):
  Ro prog 217 #[I i,I n] (I (i%n)) W w (H::F):=by
 have hm1:=Int.tmod_lt_of_pos i (by omega:0<n);have hm2:=Int.lt_tmod_of_pos i (by omega:0<n)
 refine callsA 15 func217 rfl<|sR<|pu1<|zS<|pu2<|sRem i n<|pu1<|zQ<|pu2<|nT<|cD ((i.tmod n)<0) (fun a0=>?_) (fun a0=>?_)
 rotate_left
 ·refine kS<|pu2<|zE<|retT [I (i.tmod n)] ?_
  have hk:=mod_emod (i:=i) (n:=n) om
  rw [if_neg om] at hk
  exact ⟨by rw [<-hk];rfl,hS⟩
 refine rE<|pu2<|sAdd (i.tmod n) n<|pu1<|zS<|pu2<|zE<|retT [I ((i.tmod n)+n)] ?_
 have hk:=mod_emod (i:=i) (n:=n) om
 rw [if_pos om] at hk
 exact ⟨by rw [<-hk];rfl,hS⟩
theorem r3_index (i:Int) (n:Int) (p:Int) (hS:Sat W w (H::F)):
  Ro prog 195 #[I i,I n,I p] (.tuple #[I ((idxV i n p).getD 0), .bool ((idxV i n p).isSome)]) W w (H::F):=by
 refine callsA 56 func195 rfl<|sR<|pu2<|zQ<|pu3<|sD 11 (n<1) (fun b0=>?_) (fun b0=>?_)
 ·refine pu3<|zC<|pu2<|zR<|retT [I 0, .bool false] ?_
  have hk:idxV i n p=none:=by unfold idxV;(repeat' split)<;>first|rfl|(exfalso;omega)
  exact ⟨by rw [hk];rfl,hS⟩
 refine pu3<|nT<|cD (n>128) (fun c0=>?_) (fun c0=>?_)
 ·refine sR<|pu2<|zR<|retT [I 0, .bool false] ?_
  have hk:idxV i n p=none:=by unfold idxV;(repeat' split)<;>first|rfl|(exfalso;omega)
  exact ⟨by rw [hk];rfl,hS⟩
 refine kT<|seqE<|sR<|pu1<|nT<|blockE<|sR<|pu2<|nT<|cE p 0 (fun d0=>?_) (fun d0=>?_)
 ·refine sR<|pu1<|stepY (I (max i 0)) rfl rfl (Y_max2 i 0 rfl rfl kr kr)<|pu1<|sSub n 1<|stepY (I (min (max i 0) (n-1))) rfl rfl (Y_min2 (max i 0) (n-1) rfl rfl kr kr)<|pu2<|zB<|retT [I (min (max i 0) (n-1)), .bool true] ?_
  have hk:idxV i n p=some (min (max i 0) (n-1)):=by unfold idxV;(repeat' split)<;>first|rfl|(exfalso;omega)|(congr 1;omega)
  exact ⟨by rw [hk];rfl,hS⟩
 refine sR<|pu2<|nT<|cE p 1 (fun e0=>?_) (fun e0=>?_)
 ·refine seqE<|sR<|pu2<|sMul 2 n<|cR call217 (r3_mod i (2*n) (od) hS.flat) fun _ a0=>?_
  have hme:=Int.emod_nonneg i (by omega:((2*n):Int)≠0);have hmf:=Int.emod_lt_of_pos i (by omega:(0:Int)<(2*n))
  refine pu1<|zS<|pu3<|nT<|cD ((i%(2*n))>=n) (fun f0=>?_) (fun f0=>?_)
  ·refine sR<|pu1<|sMul 2 n<|sSub (2*n) 1<|pu1<|sSub ((2*n)-1) (i%(2*n))<|pu2<|zE<|tR<|tK<|retT [I (((2*n)-1)-(i%(2*n))), .bool true] ?_
   have hk:idxV i n p=some (((2*n)-1)-(i%(2*n))):=by unfold idxV;(repeat' split)<;>first|rfl|(exfalso;omega)|(congr 1;omega)
   exact ⟨by rw [hk];rfl,a0⟩
  refine kS<|pu2<|sMul 2 n<|cR call217 (r3_mod i (2*n) (od) a0.flat) fun _ g0=>?_
  have hme:=Int.emod_nonneg i (by omega:((2*n):Int)≠0);have hmf:=Int.emod_lt_of_pos i (by omega:(0:Int)<(2*n))
  refine pu2<|zB<|retT [I (i%(2*n)), .bool true] ?_
  have hk:idxV i n p=some (i%(2*n)):=by unfold idxV;(repeat' split)<;>first|rfl|(exfalso;omega)|(congr 1;omega)
  exact ⟨by rw [hk];rfl,g0⟩
 refine sR<|pu2<|nT<|cE p 2 (fun h0=>?_) (fun h0=>?_)
 ·refine sR<|pu2<|cR call217 (r3_mod i n (od) hS.flat) fun _ i0=>?_
  have hme:=Int.emod_nonneg i (by omega:(n:Int)≠0);have hmf:=Int.emod_lt_of_pos i (by omega:(0:Int)<n)
  refine pu2<|zB<|retT [I (i%n), .bool true] ?_
  have hk:idxV i n p=some (i%n):=by unfold idxV;(repeat' split)<;>first|rfl|(exfalso;omega)|(congr 1;omega)
  exact ⟨by rw [hk];rfl,i0⟩
 refine sR<|pu2<|nT<|cE p 3 (fun j0=>?_) (fun j0=>?_)
 rotate_left
 ·refine skipE<|bN<|tN<|sR<|pu2<|zE<|retT [I 0, .bool false] ?_
  have hk:idxV i n p=none:=by unfold idxV;(repeat' split)<;>first|rfl|(exfalso;omega)
  exact ⟨by rw [hk];rfl,hS⟩
 refine sR<|pu3<|sD 50 (i>=0) (fun k0=>?_) (fun k0=>?_)
 rotate_left
 ·refine pu4<|nT<|cFf<|skipE<|bN<|tN<|sR<|pu2<|zE<|retT [I 0, .bool false] ?_
  have hk:idxV i n p=none:=by unfold idxV;(repeat' split)<;>first|rfl|(exfalso;omega)
  exact ⟨by rw [hk];rfl,hS⟩
 refine pu4<|nT<|cD (i<n) (fun l0=>?_) (fun l0=>?_)
 rotate_left
 ·refine skipE<|bN<|tN<|sR<|pu2<|zE<|retT [I 0, .bool false] ?_
  have hk:idxV i n p=none:=by unfold idxV;(repeat' split)<;>first|rfl|(exfalso;omega)
  exact ⟨by rw [hk];rfl,hS⟩
 refine sR<|pu3<|zB<|retT [I i, .bool true] ?_
 have hk:idxV i n p=some i:=by unfold idxV;(repeat' split)<;>first|rfl|(exfalso;omega)|(congr 1;omega)
 exact ⟨by rw [hk];rfl,hS⟩
end Go.Proofs.YtmlhcafjelkjfaaGreat
