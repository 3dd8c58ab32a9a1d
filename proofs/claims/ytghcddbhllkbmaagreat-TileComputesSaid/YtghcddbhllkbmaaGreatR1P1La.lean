import Derived.WalkKit
import Derived.Deep.Quiet
import Derived.KernelRfl
import Derived.Laws.BytesString
import Derived.Laws.Shifts
import Derived.Laws.IdiomStrings
import Derived.OpenShut
import Derived.Deep.Slices
import Derived.ChangeSame
import Derived.Deep.Fields
import Derived.Test.YtghcddbhllkbmaaGreatProg
import Derived.Test.YtghcddbhllkbmaaGreatR1P1RefP
namespace Go.Proofs.YtghcddbhllkbmaaGreat
open Go Go.E Go.Proofs.Tryz
set_option linter.all false
set_option maxRecDepth 100000
set_option maxHeartbeats 2000000
variable {W w:World} {H:Chunk} {F:List Chunk}
structure Rct where
  x0:Int
  y0:Int
  x1:Int
  y1:Int
  deriving DecidableEq
def encRct (x:Rct):List Value:=[.int .i64 x.x0, .int .i64 x.y0, .int .i64 x.x1, .int .i64 x.y1]
def insU (n:Int):List Int->List Int
  |[]=>[n]
  |x::l=>if n<x then n::x::l else if n=x then x::l else x::insU n l
def canonV (l:List Int):List Int:=l.foldl (fun a n=>insU n a) []
def uptoV (n:Nat):List Int:=(List.range n).map fun (i:Nat)=>(i:Int)
def ceilV (a b:Int):Int:=if 0<=a/\1<=b then (if a%b=0 then a/b else a/b+1) else 0
def fineP (w h tw th:Int):Prop:=(1<=w/\w<=128)/\(1<=h/\h<=128)/\(1<=tw/\tw<=64)/\1<=th/\th<=64
instance (w h tw th:Int):Decidable (fineP w h tw th):=by unfold fineP;infer_instance
def colsN (w h tw th:Int):Int:=if fineP w h tw th then ceilV w tw else 0
def rowsN (w h tw th:Int):Int:=if fineP w h tw th then ceilV h th else 0
def tileV (w h tw th i:Int):Rct:=⟨i%colsN w h tw th*tw,i/colsN w h tw th*th,min (i%colsN w h tw th*tw+tw) w,min (i/colsN w h tw th*th+th) h⟩
def tilN (w h tw th:Int):Nat:=(colsN w h tw th*rowsN w h tw th).toNat
def idxV (i n p:Int):Option Int:=
  if 1<=n/\n<=128 then
    (if p=0 then some (min (max i 0) (n-1))
    else if p=1 then some (if n<=i%(2*n) then 2*n-1-i%(2*n) else i%(2*n))
    else if p=2 then some (i%n)
    else if p=3/\0<=i/\i<n then some i else none)
  else none
def kerP (n:Int):Prop:=1<=n/\n<=9
instance (n:Int):Decidable (kerP n):=by unfold kerP;infer_instance
def tapP (t:TapV):Bool:=decide (t.weights.length<=8/\-128<=t.first/\t.first<=256)
def accV (s:StageV):Prop:=fieldsP s/\(s.kind=1->kerP s.kW/\kerP s.kH)/\(s.kind=2->kerP s.row.length/\kerP s.col.length)/\(s.kind=3->s.x.all tapP=true/\s.y.all tapP=true)
instance (s:StageV):Decidable (accV s):=by unfold accV;infer_instance
def winF (kd k size:Int) (t:List TapV):Int:=if kd=1\/kd=2 then k-size/2 else if kd=3 then (match t[k.toNat]? with|some x=>x.first|none=>0) else k
def winC (kd k size:Int) (t:List TapV):Int:=if kd=1\/kd=2 then size else if kd=3 then (match t[k.toNat]? with|some x=>(x.weights.length:Int)|none=>0) else 1
def polV (s:StageV):Int:=if 3<s.kind then 3 else s.edgePolicy
def hitB (s:StageV) (n k size:Int) (t:List TapV) (m:Int):Bool:=(List.range (winC s.kind k size t).toNat).any fun j=>decide (idxV (winF s.kind k size t+j) n (polV s)=some m)
def needB (s:StageV) (n a b size:Int) (t:List TapV) (m:Int):Bool:=(List.range (b-a).toNat).any fun j=>hitB s n (a+j) size t m
def lenP (n a b:Int):Prop:=(1<=n/\n<=128)/\(0<=a/\a<=128)/\0<=b/\b<=128
instance (n a b:Int):Decidable (lenP n a b):=by unfold lenP;infer_instance
def needV (s:StageV) (n a b size:Int) (t:List TapV):List Int:=if lenP n a b/\accV s then (uptoV n.toNat).filter (needB s n a b size t) else []
def colsV (s:StageV) (w a b:Int):List Int:=needV s w a b (if s.kind=2 then s.row.length else s.kW) s.x
def rowsV (s:StageV) (h a b:Int):List Int:=needV s h a b (if s.kind=2 then s.col.length else s.kH) s.y
def someV (l:List Int) (a b:Int):Bool:=l.any fun v=>decide (a<=v/\v<b)
def tilesV (s:StageV) (w h tw th:Int) (r:Rct):List Int:=
  (uptoV (tilN w h tw th)).filter fun i=>someV (colsV s w r.x0 r.x1) (i%colsN w h tw th*tw) ((i%colsN w h tw th+1)*tw)&&someV (rowsV s h r.y0 r.y1) (i/colsN w h tw th*th) ((i/colsN w h tw th+1)*th)
def belongP (kind part:Int):Prop:=(kind=4/\(part=1\/part=2))\/(¬kind=4/\part=0)
instance (k p:Int):Decidable (belongP k p):=by unfold belongP;infer_instance
def cellsV (s:StageV) (h:Int) (r:Rct):Int:=
  if s.kind=1 then (r.x1-r.x0+s.kW-1)*(r.y1-r.y0+s.kH-1)
  else if s.kind=2 then (r.x1-r.x0)*(r.y1-r.y0+s.col.length-1)
  else if s.kind=3 then (r.x1-r.x0)*(rowsV s h r.y0 r.y1).length
  else if s.kind=4 then s.bins
  else if s.kind=5 then r.x1-r.x0+(r.y1-r.y0)+1
  else r.x1-r.x0
def alnV (n:Int):Int:=(n+15)/16*16
def bytV (s:StageV) (h:Int) (r:Rct):Int:=alnV (8*cellsV s h r)
def inP (r:Rct):Prop:=0<=r.x0/\r.x0<r.x1/\r.x1<=128/\0<=r.y0/\r.y0<r.y1/\r.y1<=128
instance (r:Rct):Decidable (inP r):=by unfold inP;infer_instance
structure Lay where
  ni:Int
  ss:List StageV
  sh:List Shape
  od:List Int
  tw:Int
  th:Int
def Lay.st (L:Lay) (n:Int):StageV:=stgAt L.ss L.ni n
def Lay.cut (L:Lay) (n:Int):Shape:=if (L.st n).kind=4 then shpAt L.sh (L.st n).a else shpAt L.sh n
def Lay.nx (L:Lay) (n:Int):Int:=colsN (L.cut n).w (L.cut n).h L.tw L.th
def Lay.ny (L:Lay) (n:Int):Int:=rowsN (L.cut n).w (L.cut n).h L.tw L.th
def Lay.cnt (L:Lay) (n:Int):Int:=if (L.st n).kind=4 then L.nx n*L.ny n+1 else L.nx n*L.ny n
def firstG (f:Int->Int):List Int->Int->Int
  |[],_=>0
  |x::l,n=>if x=n then 0 else f x+firstG f l n
def Lay.first (L:Lay) (n:Int):Int:=firstG L.cnt L.od n
def Lay.srcDeps (L:Lay) (s:StageV) (r:Rct) (x:Int):List Int:=
  if x<L.ni then [] else if s.barrier=true then (uptoV (L.cnt x).toNat).map (L.first x+·)
  else if (L.st x).kind=4 then [L.first x+L.cnt x-1]
  else (tilesV s (shpAt L.sh x).w (shpAt L.sh x).h L.tw L.th r).map (L.first x+·)
def Lay.needs (L:Lay) (s:StageV) (r:Rct):List Int:=(srcs s).flatMap (L.srcDeps s r)
def Lay.own (L:Lay) (n i:Int):List Int:=if (L.st n).kind=5 then (if 0<i%L.nx n then [L.first n+i-1] else [])++(if L.nx n<=i then [L.first n+i-L.nx n] else []) else []
def Lay.task (L:Lay) (n part:Int) (r:Rct) (deps:List Int):TaskV:=
  ⟨n,part,r.x0,r.y0,r.x1,r.y1,canonV deps,if part=2 then 1 else r.y1-r.y0,bytV (L.st n) (shpAt L.sh (L.st n).a).h r⟩
def Lay.part (L:Lay) (n:Int):Int:=if (L.st n).kind=4 then 1 else 0
def Lay.tile (L:Lay) (n i:Int):Rct:=tileV (L.cut n).w (L.cut n).h L.tw L.th i
def Lay.tileT (L:Lay) (n i:Int):TaskV:=L.task n (L.part n) (L.tile n i) (L.needs (L.st n) (L.tile n i)++L.own n i)
def Lay.mergeT (L:Lay) (n:Int):TaskV:=L.task n 2 ⟨0,0,(L.st n).bins,1⟩ ((uptoV (L.nx n*L.ny n).toNat).map (L.first n+·))
def Lay.tasks (L:Lay) (n:Int):List TaskV:=(uptoV (L.nx n*L.ny n).toNat).map (L.tileT n)++(if (L.st n).kind=4 then [L.mergeT n] else [])
def Lay.all (L:Lay):List TaskV:=L.od.flatMap L.tasks
def tileP (tw th:Int):Prop:=(1<=tw/\tw<=64)/\1<=th/\th<=64
instance (tw th:Int):Decidable (tileP tw th):=by unfold tileP;infer_instance
def Lay.cells (L:Lay):Int:=(L.sh.map fun m=>m.w*m.h).sum+(L.od.map fun n=>if (L.st n).kind=4 then (L.st n).bins*(L.cnt n-1) else 0).sum
theorem ceil_bd {a b:Int} (ha:1<=a/\a<=128) (hb:1<=b):1<=ceilV a b/\ceilV a b<=128:=by
 unfold ceilV
 rw [if_pos ⟨om,hb⟩]
 have h1:=Int.mul_ediv_add_emod a b
 have h2:=Int.emod_nonneg a (by omega:b≠0)
 have h3:=Int.emod_lt_of_pos a (by omega:0<b)
 have h4:a/b<=a:=Int.ediv_le_self _ om
 have h5:0<=a/b:=Int.ediv_nonneg om om
 split
 · exact (by have:a/b≠0:=fun h=>(by rw [h,Int.mul_zero] at h1;omega);omega)
 ·have h6:a/b<128:=by
   by_cases h:a/b=128
   ·have a0:b=1:=by
     by_cases a0:b=1
     ·exact a0
     ·have:=Int.mul_le_mul_of_nonneg_right (show (2:Int)<=b by omega) h5;omega
    subst a0;simp at*
   ·omega
  omega
theorem cols_bd {w h tw th:Int} (hf:fineP w h tw th):(1<=colsN w h tw th/\colsN w h tw th<=128)/\1<=rowsN w h tw th/\rowsN w h tw th<=128:=by
  unfold colsN rowsN
  rw [if_pos hf,if_pos hf]
  exact ⟨ceil_bd hf.1 hf.2.2.1.1,ceil_bd hf.2.1 hf.2.2.2.1⟩
theorem ceil_ge {a b:Int} (ha:0<=a) (hb:1<=b):a<=ceilV a b*b:=by
  unfold ceilV
  rw [if_pos ⟨ha,hb⟩]
  have h1:=Int.mul_ediv_add_emod a b
  have h3:=Int.emod_lt_of_pos a (by omega:0<b)
  split
  · rw [Int.mul_comm (a/b) b];omega
  · rw [Int.add_mul,Int.one_mul,Int.mul_comm (a/b) b];omega
theorem tile_ix {i nx ny:Int} (hn:1<=nx) (hi:0<=i) (h:i<nx*ny):(0<=i%nx/\i%nx<nx)/\0<=i/nx/\i/nx<ny/\i=i/nx*nx+i%nx:=by
  have h1:=Int.mul_ediv_add_emod i nx
  exact ⟨⟨(Int.emod_nonneg i (by omega:nx≠0)),(Int.emod_lt_of_pos i (by omega:0<nx))⟩,Int.ediv_nonneg hi (by omega),(Int.ediv_lt_of_lt_mul (by omega) (by rw [Int.mul_comm];exact h)),by rw [Int.mul_comm];omega⟩
theorem mod_emod {i n:Int} (hn:0<n):(if i.tmod n<0 then i.tmod n+n else i.tmod n)=i%n:=by
  have h1:=Int.tmod_lt_of_pos i hn
  have h2:=Int.lt_tmod_of_pos i hn
  have e:i%n=i.tmod n%n:=by
    have h:=Int.tmod_add_mul_tdiv i n
    calc i%n=(i.tmod n+n*i.tdiv n)%n:=by rw [h]
      _=i.tmod n%n:=by rw [Int.add_mul_emod_self_left]
  rw [e]
  split
  · rw [<-Int.add_emod_right,Int.emod_eq_of_lt (by omega) (by omega)]
  · rw [Int.emod_eq_of_lt (by omega) (by omega)]
theorem idx_bd {i n p c:Int} (h:idxV i n p=some c):0<=c/\c<n:=by
  unfold idxV at h
  split at h
  · rename_i hn
    have h1:=Int.emod_nonneg i (by omega:n≠0)
    have h2:=Int.emod_lt_of_pos i (by omega:0<n)
    have h3:=Int.emod_nonneg i (by omega:2*n≠0)
    have h4:=Int.emod_lt_of_pos i (by omega:0<2*n)
    repeat' split at h
    all_goals first
      |(simp only [Option.some.injEq] at h;omega)
      |cases h
  · cases h
def MkB (N:Nat) (ks:List Bool) (f:Int->Bool):Prop:=ks.length=N/\∀m:Nat,m<N->ks[m]?=some (f m)
theorem MkB.zero {N:Nat} {f:Int->Bool} (hf:∀m,f m=false):MkB N (List.replicate N false) f:=by
  refine ⟨by simp,fun m hm=>?_⟩
  rw [List.getElem?_replicate,if_pos hm,hf]
theorem MkB.at {N:Nat} {ks:List Bool} {f:Int->Bool} {m:Nat} {x:Bool} (h:MkB N ks f) (hx:ks[m]?=some x):x=f m:=by
  have hm:=(List.getElem?_eq_some_iff.1 hx).1
  have:=h.2 m (by rw [<-h.1];exact hm)
  rw [hx] at this;exact Option.some.inj this
theorem MkB.set {N:Nat} {ks:List Bool} {f g:Int->Bool} {c:Int} (h:MkB N ks f) (hc:0<=c/\c<N) (e:∀m:Int,g m=(f m||decide (c=m))):MkB N (ks.set c.toNat true) g:=by
  refine ⟨by rw [List.length_set];exact h.1,fun m hm=>?_⟩
  rw [e,List.getElem?_set]
  split
  · exact (by rename_i hcm;rw [if_pos (by rw [h.1];omega),decide_eq_true (show c=(m:Int) by omega),Bool.or_true])
  · rw [h.2 m hm,decide_eq_false (show ¬c=(m:Int) by omega),Bool.or_false]
theorem any_range_succ (k:Nat) (f:Nat->Bool):(List.range (k+1)).any f=((List.range k).any f||f k):=by rw [List.range_succ,List.any_append];simp
theorem MkB.one {N:Nat} {ks:List Bool} {A:Int->Bool} {s:StageV} {n:Int} {k:Nat} {F:Int} {c:Int} (h:MkB N ks (fun m=>A m||(List.range k).any fun j=>decide (idxV (F+j) n (polV s)=some m))) (he:idxV (F+k) n (polV s)=some c) (hc:0<=c/\c<N):
    MkB N (ks.set c.toNat true) (fun m=>A m||(List.range (k+1)).any fun j=>decide (idxV (F+j) n (polV s)=some m)):=by
  exact h.set hc (fun m=>(by rw [any_range_succ,he,<-Bool.or_assoc];congr 1;exact decide_eq_decide.2 ⟨fun h=>Option.some.inj h,fun h=>by rw [h]⟩))
theorem grid_ix {nx i j:Int} (hj:0<=j/\j<nx):(i*nx+j)%nx=j/\(i*nx+j)/nx=i:=by
  have hx:0<nx:=by omega
  refine ⟨?_,?_⟩
  · rw [Int.add_comm,Int.add_mul_emod_self_right,Int.emod_eq_of_lt hj.1 hj.2]
  · rw [Int.add_comm,Int.add_mul_ediv_right _ _ (by omega),Int.ediv_eq_zero_of_lt hj.1 hj.2,Int.zero_add]
def cooP (n:Int):Prop:=-1048576<=n/\n<=1048576
instance (n:Int):Decidable (cooP n):=by unfold cooP;infer_instance
def rvP (r:Rct):Prop:=(r.x0=0/\r.y0=0/\r.x1=0/\r.y1=0)\/(cooP r.x0/\cooP r.y0/\cooP r.x1/\cooP r.y1/\r.x0<r.x1/\r.y0<r.y1)
instance (r:Rct):Decidable (rvP r):=by unfold rvP;infer_instance
theorem eqve45 (w:World) (a0 a1 a2 a3 b0 b1 b2 b3:Int):∀x y,((do eqGuard .eql 45 x y (.agg #[.int .i64 a0, .int .i64 a1, .int .i64 a2, .int .i64 a3]) (.agg #[.int .i64 b0, .int .i64 b1, .int .i64 b2, .int .i64 b3]);binOp .eql 45 (.agg #[.int .i64 a0, .int .i64 a1, .int .i64 a2, .int .i64 a3]) (.agg #[.int .i64 b0, .int .i64 b1, .int .i64 b2, .int .i64 b3])):Sem Value).run prog w= .ok (.bool ((a0==b0)&&(a1==b1)&&(a2==b2)&&(a3==b3))) w:=by
  intro x y
  simp [go_sem,run_eqGuard_agg,run_eql_struct,run_equalIn_agg]
  by_cases h0:a0=b0<;>by_cases h1:a1=b1<;>by_cases h2:a2=b2<;>by_cases h3:a3=b3<;>simp [*]
theorem p2_coord (n:Int) (hS:Sat W w (H::F)):
  Ro prog 140 #[I n] (.bool (decide (-(1048576:Int)<=n/\n<=1048576))) W w (H::F):=by
 exact callsK 9 func140 rfl<|jCO 10 rfl<|SD 5 (-1048576<=n) (fun a0=>jOR 7 rfl<|retT [.bool false]<|⟨rB bq,hS⟩) fun a0=>jOR 7 rfl<|retT [.bool (decide ((n:Int)<=1048576))]<|⟨rB bq,hS⟩
theorem p2_empty (r:Rct) (hS:Sat W w (H::F)):
  Ro prog 53 #[.agg (encRct r).toArray] (.bool (decide (r.x0=0/\r.y0=0/\r.x1=0/\r.y1=0))) W w (H::F):=by
 exact callsK 6 func53 rfl<|jCO 2 rfl<|sBx hS (encRct r) fun _ _ a0=>gOO a0 7 [400] rfl<|stepY (.bool (((r.x0:Int)==0)&&((r.y0:Int)==0)&&((r.x1:Int)==0)&&((r.y1:Int)==0))) rfl rfl (Y_eqS rfl kr kr (eqve45 _ r.x0 r.y0 r.x1 r.y1 0 0 0 0))<|jOR 4 rfl<|retT [.bool (((r.x0:Int)==0)&&((r.y0:Int)==0)&&((r.x1:Int)==0)&&((r.y1:Int)==0))]<|⟨rB bq,(a0.dropAt 0 rfl)⟩
theorem p2_valid (r:Rct) (hS:Sat W w (H::F)):
  Ro prog 95 #[.agg (encRct r).toArray] (.bool (decide (rvP r))) W w (H::F):=by
 refine callsK 37 func95 rfl<|jCO 2 rfl<|sBx hS (encRct r) fun _ _ f0=>gOO f0 7 [400] rfl<|cS (p2_empty r f0.flat) fun _ b0=>jOC 2 rfl<|cD (r.x0=0/\r.y0=0/\r.x1=0/\r.y1=0) (fun g0=>jCR 7 rfl<|retT [.bool true]<|⟨rB (by first|rfl|(rw [Bool.eq_iff_iff];simp only [decide_eq_true_eq,beq_iff_eq,bne_iff_ne,ne_eq,Bool.not_eq_true',decide_eq_false_iff_not,true_iff,false_iff,iff_true,iff_false,Bool.false_eq_true,Bool.and_eq_true,Bool.or_eq_true,gt_iff_lt,ge_iff_le,rvP,cooP]<;>omega)|(rw [Bool.eq_iff_iff];simp [rvP,cooP, *]<;>omega)|(simp_all;done)),(b0.dropAt 0 rfl)⟩) fun g0=>gCO b0 6 [0] rfl<|cS (p2_coord r.x0 b0.flat) fun _ c0=>pu1<|SD 8 (-(1048576:Int)<=r.x0/\r.x0<=1048576) (fun i0=>jOR 32 rfl<|retT [.bool false]<|⟨rB (by first|rfl|(rw [Bool.eq_iff_iff];simp only [decide_eq_true_eq,beq_iff_eq,bne_iff_ne,ne_eq,Bool.not_eq_true',decide_eq_false_iff_not,true_iff,false_iff,iff_true,iff_false,Bool.false_eq_true,Bool.and_eq_true,Bool.or_eq_true,gt_iff_lt,ge_iff_le,rvP,cooP]<;>omega)|(rw [Bool.eq_iff_iff];simp [rvP,cooP, *]<;>omega)|(simp_all;done)),(c0.dropAt 0 rfl)⟩) fun i0=>gOO c0 2 [0] rfl<|gY<|cS (p2_coord r.y0 c0.flat) fun _ d0=>pu2<|SD 13 (-(1048576:Int)<=r.y0/\r.y0<=1048576) (fun k0=>jOR 27 rfl<|retT [.bool false]<|⟨rB (by first|rfl|(rw [Bool.eq_iff_iff];simp only [decide_eq_true_eq,beq_iff_eq,bne_iff_ne,ne_eq,Bool.not_eq_true',decide_eq_false_iff_not,true_iff,false_iff,iff_true,iff_false,Bool.false_eq_true,Bool.and_eq_true,Bool.or_eq_true,gt_iff_lt,ge_iff_le,rvP,cooP]<;>omega)|(rw [Bool.eq_iff_iff];simp [rvP,cooP, *]<;>omega)|(simp_all;done)),(d0.dropAt 0 rfl)⟩) fun k0=>?_
 exact gOO d0 2 [0] rfl<|gY<|cS (p2_coord r.x1 d0.flat) fun _ e0=>pu2<|SD 18 (-(1048576:Int)<=r.x1/\r.x1<=1048576) (fun m0=>jOR 22 rfl<|retT [.bool false]<|⟨rB (by first|rfl|(rw [Bool.eq_iff_iff];simp only [decide_eq_true_eq,beq_iff_eq,bne_iff_ne,ne_eq,Bool.not_eq_true',decide_eq_false_iff_not,true_iff,false_iff,iff_true,iff_false,Bool.false_eq_true,Bool.and_eq_true,Bool.or_eq_true,gt_iff_lt,ge_iff_le,rvP,cooP]<;>omega)|(rw [Bool.eq_iff_iff];simp [rvP,cooP, *]<;>omega)|(simp_all;done)),(e0.dropAt 0 rfl)⟩) fun m0=>gOO e0 2 [0] rfl<|gY<|cS (p2_coord r.y1 e0.flat) fun _ a0=>pu2<|SD 23 (-(1048576:Int)<=r.y1/\r.y1<=1048576) (fun o0=>jOR 17 rfl<|retT [.bool false]<|⟨rB (by first|rfl|(rw [Bool.eq_iff_iff];simp only [decide_eq_true_eq,beq_iff_eq,bne_iff_ne,ne_eq,Bool.not_eq_true',decide_eq_false_iff_not,true_iff,false_iff,iff_true,iff_false,Bool.false_eq_true,Bool.and_eq_true,Bool.or_eq_true,gt_iff_lt,ge_iff_le,rvP,cooP]<;>omega)|(rw [Bool.eq_iff_iff];simp [rvP,cooP, *]<;>omega)|(simp_all;done)),(a0.dropAt 0 rfl)⟩) fun o0=>gOO a0 7 [0,0] rfl<|SD 30 (r.x0<r.x1) (fun q0=>jOR 10 rfl<|retT [.bool false]<|⟨rB (by first|rfl|(rw [Bool.eq_iff_iff];simp only [decide_eq_true_eq,beq_iff_eq,bne_iff_ne,ne_eq,Bool.not_eq_true',decide_eq_false_iff_not,true_iff,false_iff,iff_true,iff_false,Bool.false_eq_true,Bool.and_eq_true,Bool.or_eq_true,gt_iff_lt,ge_iff_le,rvP,cooP]<;>omega)|(rw [Bool.eq_iff_iff];simp [rvP,cooP, *]<;>omega)|(simp_all;done)),(a0.dropAt 0 rfl)⟩) fun q0=>gOR a0 10 [0,0] rfl<|retT [.bool (decide (r.y0<r.y1))]<|⟨rB (by first|rfl|(rw [Bool.eq_iff_iff];simp only [decide_eq_true_eq,beq_iff_eq,bne_iff_ne,ne_eq,Bool.not_eq_true',decide_eq_false_iff_not,true_iff,false_iff,iff_true,iff_false,Bool.false_eq_true,Bool.and_eq_true,Bool.or_eq_true,gt_iff_lt,ge_iff_le,rvP,cooP]<;>omega)|(rw [Bool.eq_iff_iff];simp [rvP,cooP, *]<;>omega)|(simp_all;done)),(a0.dropAt 0 rfl)⟩
theorem p3_mod (i:Int) (n:Int) (hn:1<=n/\n<=4611686018427387904) (hS:Sat W w (H::F)):
  Ro prog 187 #[I i,I n] (I (i%n)) W w (H::F):=by
 have b0:=Int.tmod_lt_of_pos i (by omega:0<n);have c0:=Int.lt_tmod_of_pos i (by omega:0<n)
 exact callsK 15 func187 rfl<|jCO 9 rfl<|sRem i n<|jOC 10 rfl<|CD ((i.tmod n)<0) (fun a0=>jCR 9 rfl<|retT [I (i.tmod n)]<|(by have hk:=mod_emod (i:=i) (n:=n) om;rw [if_neg om] at hk;exact ⟨by rw [<-hk];rfl,hS⟩)) fun a0=>jCO 3 rfl<|sAdd (i.tmod n) n<|jOR 10 rfl<|retT [I ((i.tmod n)+n)]<|(by have hk:=mod_emod (i:=i) (n:=n) om;rw [if_pos om] at hk;exact ⟨by rw [<-hk];rfl,hS⟩)
theorem p3_index (i:Int) (n:Int) (p:Int) (hS:Sat W w (H::F)):
  Ro prog 161 #[I i,I n,I p] (.tuple #[I ((idxV i n p).getD 0), .bool ((idxV i n p).isSome)]) W w (H::F):=by
 refine callsK 53 func161 rfl<|jCO 12 rfl<|sD 11 (n<1) (fun b0=>jOR 14 rfl<|retT [I 0, .bool false]<|(by have hk:idxV i n p=none:=(by unfold idxV;(repeat' split)<;>first|rfl|(exfalso;omega));exact ⟨by rw [hk];rfl,hS⟩)) fun b0=>jOC 5 rfl<|cD (n>128) (fun c0=>jCR 8 rfl<|retT [I 0, .bool false]<|(by have hk:idxV i n p=none:=(by unfold idxV;(repeat' split)<;>first|rfl|(exfalso;omega));exact ⟨by rw [hk];rfl,hS⟩)) fun c0=>jCC 15 rfl<|cE p 0 (fun d0=>jCO 3 rfl<|stepY (I (max i 0)) rfl rfl (Y_max2 i 0 rfl rfl kr kr)<|pu1<|sSub n 1<|stepY (I (min (max i 0) (n-1))) rfl rfl (Y_min2 (max i 0) (n-1) rfl rfl kr kr)<|jOR 7 rfl<|retT [I (min (max i 0) (n-1)), .bool true]<|(by have hk:idxV i n p=some (min (max i 0) (n-1)):=(by unfold idxV;(repeat' split)<;>first|rfl|(exfalso;omega)|(congr 1;omega));exact ⟨by rw [hk];rfl,hS⟩)) fun d0=>jCC 6 rfl<|cE p 1 (fun e0=>jCO 4 rfl<|sMul 2 n<|cS (p3_mod i (2*n) (od) hS.flat) fun _ a0=>(by have l0:=Int.emod_nonneg i (by omega:((2*n):Int)≠0);have m0:=Int.emod_lt_of_pos i (by omega:(0:Int)<(2*n));refine jOC 11 rfl<|CD ((i%(2*n))>=n) (fun f0=>jCR 12 rfl<|retT [I (i%(2*n)), .bool true]<|(by have hk:idxV i n p=some (i%(2*n)):=(by unfold idxV;(repeat' split)<;>first|rfl|(exfalso;omega)|(congr 1;omega));exact ⟨by rw [hk];rfl,a0⟩)) fun f0=>jCO 2 rfl<|sMul 2 n<|sSub (2*n) 1<|pu1<|sSub ((2*n)-1) (i%(2*n))<|jOR 13 rfl<|retT [I (((2*n)-1)-(i%(2*n))), .bool true] ?_;have hk:idxV i n p=some (((2*n)-1)-(i%(2*n))):=(by unfold idxV;(repeat' split)<;>first|rfl|(exfalso;omega)|(congr 1;omega));exact ⟨by rw [hk];rfl,a0⟩)) fun e0=>?_
 refine jCC 6 rfl<|cE p 2 (fun g0=>jCO 4 rfl<|cS (p3_mod i n (od) hS.flat) fun _ h0=>(by have l0:=Int.emod_nonneg i (by omega:(n:Int)≠0);have m0:=Int.emod_lt_of_pos i (by omega:(0:Int)<n);refine jOR 7 rfl<|retT [I (i%n), .bool true] ?_;have hk:idxV i n p=some (i%n):=(by unfold idxV;(repeat' split)<;>first|rfl|(exfalso;omega)|(congr 1;omega));exact ⟨by rw [hk];rfl,h0⟩)) fun g0=>?_
 refine jCC 6 rfl<|CE p 3 (fun i0=>jCR 10 rfl<|retT [I 0, .bool false]<|(by have hk:idxV i n p=none:=(by unfold idxV;(repeat' split)<;>first|rfl|(exfalso;omega));exact ⟨by rw [hk];rfl,hS⟩)) fun i0=>jCO 5 rfl<|SD 47 (0<=i) (fun j0=>jOR 17 rfl<|retT [I 0, .bool false]<|(by have hk:idxV i n p=none:=(by unfold idxV;(repeat' split)<;>first|rfl|(exfalso;omega));exact ⟨by rw [hk];rfl,hS⟩)) fun j0=>jOC 6 rfl<|CD (i<n) (fun k0=>jCR 10 rfl<|retT [I 0, .bool false]<|(by have hk:idxV i n p=none:=(by unfold idxV;(repeat' split)<;>first|rfl|(exfalso;omega));exact ⟨by rw [hk];rfl,hS⟩)) fun k0=>jCR 10 rfl<|retT [I i, .bool true] ?_
 have hk:idxV i n p=some i:=by unfold idxV;(repeat' split)<;>first|rfl|(exfalso;omega)|(congr 1;omega)
 exact ⟨by rw [hk];rfl,hS⟩
end Go.Proofs.YtghcddbhllkbmaaGreat
namespace Go.Proofs.YtghcddbhllkbmaaGreat
open Go Go.E Go.ChangeShapes Go.WideShapes Go.RowKit
set_option linter.unusedVariables false
set_option linter.unusedSimpArgs false
set_option maxRecDepth 100000
theorem open_Rct {H:Type} {enc:TypeId×Value->H} {w:World} {n:Nat} {cs:List Value} {y:DataW H×List MemPlace} (h:DataW.trod enc Tryz.prog w 0 (fun _=>true) true n 45 cs=some y):∃t:Rct,cs=encRct t/\True:=by
 obtain ⟨ys,n1,_,_,hl,hyl,hf⟩:=DataW.trod_struct Tryz.underlying45 h
 have hl9:cs.length=4:=hl.trans kr
 obtain ⟨c0,c1,c2,c3,rfl⟩:∃c0 c1 c2 c3,cs=[c0,c1,c2,c3]:=by
  rcases cs with _|⟨c0,_|⟨c1,_|⟨c2,_|⟨c3,_|⟨_,_⟩⟩⟩⟩⟩<;>first|exact ⟨c0,c1,c2,c3,rfl⟩|(simp at hl9;done)|(simp at hl9;omega)
 have g1:DataW.trod enc Tryz.prog w 0 (fun _=>true) true n1 3 [c0]=ys[0]?:=Eq.mp kr (hf 0 _ rfl)
 obtain ⟨z2,hz3,_,hw4⟩:=DataW.trod_int Tryz.underlying3 (g1.trans (List.getElem?_eq_getElem (by rw [hyl];decide)))
 simp only [List.cons.injEq,and_true] at hz3;subst hz3
 have g5:DataW.trod enc Tryz.prog w 0 (fun _=>true) true n1 3 [c1]=ys[1]?:=Eq.mp kr (hf 1 _ rfl)
 obtain ⟨z6,hz7,_,hw8⟩:=DataW.trod_int Tryz.underlying3 (g5.trans (List.getElem?_eq_getElem (by rw [hyl];decide)))
 simp only [List.cons.injEq,and_true] at hz7;subst hz7
 have g9:DataW.trod enc Tryz.prog w 0 (fun _=>true) true n1 3 [c2]=ys[2]?:=Eq.mp kr (hf 2 _ rfl)
 obtain ⟨z10,hz11,_,hw12⟩:=DataW.trod_int Tryz.underlying3 (g9.trans (List.getElem?_eq_getElem (by rw [hyl];decide)))
 simp only [List.cons.injEq,and_true] at hz11;subst hz11
 have g13:DataW.trod enc Tryz.prog w 0 (fun _=>true) true n1 3 [c3]=ys[3]?:=Eq.mp kr (hf 3 _ rfl)
 obtain ⟨z14,hz15,_,hw16⟩:=DataW.trod_int Tryz.underlying3 (g13.trans (List.getElem?_eq_getElem (by rw [hyl];decide)))
 simp only [List.cons.injEq,and_true] at hz15;subst hz15
 exact ⟨⟨z2,z6,z10,z14⟩,rfl,trivial⟩
end Go.Proofs.YtghcddbhllkbmaaGreat
namespace Go.Proofs.YtghcddbhllkbmaaGreat
open Go Go.E Go.Proofs.Tryz
set_option linter.all false
set_option maxRecDepth 100000
set_option maxHeartbeats 2000000
variable {W w:World} {H:Chunk} {F:List Chunk}
theorem r2_coord (n:Int) (hS:Sat W w (H::F)):
  Ro prog 116 #[I n] (.bool (decide (-(1048576:Int)<=n/\n<=1048576))) W w (H::F):=by
 exact callsK 9 func116 rfl<|jCO 10 rfl<|SD 5 (n>=(-1048576)) (fun a0=>jOR 7 rfl<|retT [.bool false]<|⟨rB bq,hS⟩) fun a0=>jOR 7 rfl<|retT [.bool (decide ((n:Int)<=1048576))]<|⟨rB bq,hS⟩
theorem r2_empty (r:Rct) (hS:Sat W w (H::F)):
  Ro prog 117 #[.agg (encRct r).toArray] (.bool (decide (r.x0=0/\r.y0=0/\r.x1=0/\r.y1=0))) W w (H::F):=by
 exact callsK 6 func117 rfl<|jCO 2 rfl<|sBx hS (encRct r) fun _ _ a0=>gOO a0 7 [400] rfl<|stepY (.bool (((r.x0:Int)==0)&&((r.y0:Int)==0)&&((r.x1:Int)==0)&&((r.y1:Int)==0))) rfl rfl (Y_eqS rfl kr kr (eqve45 _ r.x0 r.y0 r.x1 r.y1 0 0 0 0))<|jOR 4 rfl<|retT [.bool (((r.x0:Int)==0)&&((r.y0:Int)==0)&&((r.x1:Int)==0)&&((r.y1:Int)==0))]<|⟨rB bq,(a0.dropAt 0 rfl)⟩
theorem r2_valid (r:Rct) (hS:Sat W w (H::F)):
  Ro prog 71 #[.agg (encRct r).toArray] (.bool (decide (rvP r))) W w (H::F):=by
 refine callsK 40 func71 rfl<|jCO 2 rfl<|sBx hS (encRct r) fun _ _ b0=>gOO b0 7 [400] rfl<|stepY (.bool (((r.x0:Int)==0)&&((r.y0:Int)==0)&&((r.x1:Int)==0)&&((r.y1:Int)==0))) rfl rfl (Y_eqS rfl kr kr (eqve45 _ r.x0 r.y0 r.x1 r.y1 0 0 0 0))<|pu1<|bD ((r.x0:Int)=0/\(r.y0:Int)=0/\(r.x1:Int)=0/\(r.y1:Int)=0) (fun f0=>sFix 6 _ true (show (((r.x0:Int)==0)&&((r.y0:Int)==0)&&((r.x1:Int)==0)&&((r.y1:Int)==0))=true from by simpa [and_assoc] using f0)<|jOR 37 rfl<|retT [.bool true]<|⟨rB (by first|rfl|(rw [Bool.eq_iff_iff];simp only [decide_eq_true_eq,beq_iff_eq,bne_iff_ne,ne_eq,Bool.not_eq_true',decide_eq_false_iff_not,true_iff,false_iff,iff_true,iff_false,Bool.false_eq_true,Bool.and_eq_true,Bool.or_eq_true,gt_iff_lt,ge_iff_le,rvP,cooP]<;>omega)|(rw [Bool.eq_iff_iff];simp [rvP,cooP, *]<;>omega)|(simp_all;done)),(b0.dropAt 0 rfl)⟩) fun f0=>sFix 6 _ false (show (((r.x0:Int)==0)&&((r.y0:Int)==0)&&((r.x1:Int)==0)&&((r.y1:Int)==0))=false from by rw [<-Bool.not_eq_true];intro h_;exact f0 (by simpa [and_assoc] using h_))<|gOO b0 2 [0] rfl<|gY<|cS (r2_coord r.x0 b0.flat) fun _ c0=>pu1<|SD 10 (-(1048576:Int)<=r.x0/\r.x0<=1048576) (fun h0=>jOR 33 rfl<|retT [.bool false]<|⟨rB (by first|rfl|(rw [Bool.eq_iff_iff];simp only [decide_eq_true_eq,beq_iff_eq,bne_iff_ne,ne_eq,Bool.not_eq_true',decide_eq_false_iff_not,true_iff,false_iff,iff_true,iff_false,Bool.false_eq_true,Bool.and_eq_true,Bool.or_eq_true,gt_iff_lt,ge_iff_le,rvP,cooP]<;>omega)|(rw [Bool.eq_iff_iff];simp [rvP,cooP, *]<;>omega)|(simp_all;done)),(c0.dropAt 0 rfl)⟩) fun h0=>?_
 refine gOO c0 2 [0] rfl<|gY<|cS (r2_coord r.y0 c0.flat) fun _ d0=>pu2<|SD 15 (-(1048576:Int)<=r.y0/\r.y0<=1048576) (fun j0=>jOR 28 rfl<|retT [.bool false]<|⟨rB (by first|rfl|(rw [Bool.eq_iff_iff];simp only [decide_eq_true_eq,beq_iff_eq,bne_iff_ne,ne_eq,Bool.not_eq_true',decide_eq_false_iff_not,true_iff,false_iff,iff_true,iff_false,Bool.false_eq_true,Bool.and_eq_true,Bool.or_eq_true,gt_iff_lt,ge_iff_le,rvP,cooP]<;>omega)|(rw [Bool.eq_iff_iff];simp [rvP,cooP, *]<;>omega)|(simp_all;done)),(d0.dropAt 0 rfl)⟩) fun j0=>gOO d0 2 [0] rfl<|gY<|cS (r2_coord r.x1 d0.flat) fun _ e0=>pu2<|SD 20 (-(1048576:Int)<=r.x1/\r.x1<=1048576) (fun l0=>jOR 23 rfl<|retT [.bool false]<|⟨rB (by first|rfl|(rw [Bool.eq_iff_iff];simp only [decide_eq_true_eq,beq_iff_eq,bne_iff_ne,ne_eq,Bool.not_eq_true',decide_eq_false_iff_not,true_iff,false_iff,iff_true,iff_false,Bool.false_eq_true,Bool.and_eq_true,Bool.or_eq_true,gt_iff_lt,ge_iff_le,rvP,cooP]<;>omega)|(rw [Bool.eq_iff_iff];simp [rvP,cooP, *]<;>omega)|(simp_all;done)),(e0.dropAt 0 rfl)⟩) fun l0=>gOO e0 2 [0] rfl<|gY<|cS (r2_coord r.y1 e0.flat) fun _ a0=>pu2<|SD 25 (-(1048576:Int)<=r.y1/\r.y1<=1048576) (fun n0=>jOR 18 rfl<|retT [.bool false]<|⟨rB (by first|rfl|(rw [Bool.eq_iff_iff];simp only [decide_eq_true_eq,beq_iff_eq,bne_iff_ne,ne_eq,Bool.not_eq_true',decide_eq_false_iff_not,true_iff,false_iff,iff_true,iff_false,Bool.false_eq_true,Bool.and_eq_true,Bool.or_eq_true,gt_iff_lt,ge_iff_le,rvP,cooP]<;>omega)|(rw [Bool.eq_iff_iff];simp [rvP,cooP, *]<;>omega)|(simp_all;done)),(a0.dropAt 0 rfl)⟩) fun n0=>?_
 exact gOO a0 7 [0,0] rfl<|SD 32 (r.x0<r.x1) (fun p0=>jOR 11 rfl<|retT [.bool false]<|⟨rB (by first|rfl|(rw [Bool.eq_iff_iff];simp only [decide_eq_true_eq,beq_iff_eq,bne_iff_ne,ne_eq,Bool.not_eq_true',decide_eq_false_iff_not,true_iff,false_iff,iff_true,iff_false,Bool.false_eq_true,Bool.and_eq_true,Bool.or_eq_true,gt_iff_lt,ge_iff_le,rvP,cooP]<;>omega)|(rw [Bool.eq_iff_iff];simp [rvP,cooP, *]<;>omega)|(simp_all;done)),(a0.dropAt 0 rfl)⟩) fun p0=>gOR a0 11 [0,0] rfl<|retT [.bool (decide (r.y0<r.y1))]<|⟨rB (by first|rfl|(rw [Bool.eq_iff_iff];simp only [decide_eq_true_eq,beq_iff_eq,bne_iff_ne,ne_eq,Bool.not_eq_true',decide_eq_false_iff_not,true_iff,false_iff,iff_true,iff_false,Bool.false_eq_true,Bool.and_eq_true,Bool.or_eq_true,gt_iff_lt,ge_iff_le,rvP,cooP]<;>omega)|(rw [Bool.eq_iff_iff];simp [rvP,cooP, *]<;>omega)|(simp_all;done)),(a0.dropAt 0 rfl)⟩
theorem r2_full (r:Rct) (hS:Sat W w (H::F)):
  Ro prog 79 #[.agg (encRct r).toArray] (.bool (decide (rvP r/\¬(r.x0=0/\r.y0=0/\r.x1=0/\r.y1=0)))) W w (H::F):=by
 exact callsK 10 func79 rfl<|jCO 2 rfl<|sBx hS (encRct r) fun _ _ b0=>gOO b0 6 [400] rfl<|cS (r2_valid r b0.flat) fun _ a0=>pu1<|SD 5 (rvP r) (fun c0=>jOR 8 rfl<|retT [.bool false]<|⟨rB bs,(a0.dropAt 0 rfl)⟩) fun c0=>gOO a0 1 [400] rfl<|gY<|cS (r2_empty r a0.flat) fun _ e0=>jOR 6 rfl<|retT [.bool (!decide (r.x0=0/\r.y0=0/\r.x1=0/\r.y1=0))]<|⟨rB bs,(e0.dropAt 0 rfl)⟩
theorem r3_mod (i:Int) (n:Int) (hn:1<=n/\n<=4611686018427387904) (hS:Sat W w (H::F)):
  Ro prog 185 #[I i,I n] (I (i%n)) W w (H::F):=by
 have b0:=Int.tmod_lt_of_pos i (by omega:0<n);have c0:=Int.lt_tmod_of_pos i (by omega:0<n)
 exact callsK 15 func185 rfl<|jCO 9 rfl<|sRem i n<|jOC 10 rfl<|CD ((i.tmod n)<0) (fun a0=>jCR 9 rfl<|retT [I (i.tmod n)]<|(by have hk:=mod_emod (i:=i) (n:=n) om;rw [if_neg om] at hk;exact ⟨by rw [<-hk];rfl,hS⟩)) fun a0=>jCO 3 rfl<|sAdd (i.tmod n) n<|jOR 10 rfl<|retT [I ((i.tmod n)+n)]<|(by have hk:=mod_emod (i:=i) (n:=n) om;rw [if_pos om] at hk;exact ⟨by rw [<-hk];rfl,hS⟩)
theorem r3_index (i:Int) (n:Int) (p:Int) (hS:Sat W w (H::F)):
  Ro prog 155 #[I i,I n,I p] (.tuple #[I ((idxV i n p).getD 0), .bool ((idxV i n p).isSome)]) W w (H::F):=by
 refine callsK 56 func155 rfl<|jCO 12 rfl<|sD 11 (n<1) (fun b0=>jOR 14 rfl<|retT [I 0, .bool false]<|(by have hk:idxV i n p=none:=(by unfold idxV;(repeat' split)<;>first|rfl|(exfalso;omega));exact ⟨by rw [hk];rfl,hS⟩)) fun b0=>jOC 5 rfl<|cD (n>128) (fun c0=>jCR 8 rfl<|retT [I 0, .bool false]<|(by have hk:idxV i n p=none:=(by unfold idxV;(repeat' split)<;>first|rfl|(exfalso;omega));exact ⟨by rw [hk];rfl,hS⟩)) fun c0=>jCC 15 rfl<|cE p 0 (fun d0=>jCO 3 rfl<|stepY (I (max i 0)) rfl rfl (Y_max2 i 0 rfl rfl kr kr)<|pu1<|sSub n 1<|stepY (I (min (max i 0) (n-1))) rfl rfl (Y_min2 (max i 0) (n-1) rfl rfl kr kr)<|jOR 7 rfl<|retT [I (min (max i 0) (n-1)), .bool true]<|(by have hk:idxV i n p=some (min (max i 0) (n-1)):=(by unfold idxV;(repeat' split)<;>first|rfl|(exfalso;omega)|(congr 1;omega));exact ⟨by rw [hk];rfl,hS⟩)) fun d0=>jCC 6 rfl<|cE p 1 (fun e0=>jCO 5 rfl<|sMul 2 n<|cS (r3_mod i (2*n) (od) hS.flat) fun _ a0=>(by have m0:=Int.emod_nonneg i (by omega:((2*n):Int)≠0);have n0:=Int.emod_lt_of_pos i (by omega:(0:Int)<(2*n));refine jOC 10 rfl<|cD ((i%(2*n))>=n) (fun f0=>jCO 3 rfl<|sMul 2 n<|sSub (2*n) 1<|pu1<|sSub ((2*n)-1) (i%(2*n))<|jOR 8 rfl<|retT [I (((2*n)-1)-(i%(2*n))), .bool true]<|(by have hk:idxV i n p=some (((2*n)-1)-(i%(2*n))):=(by unfold idxV;(repeat' split)<;>first|rfl|(exfalso;omega)|(congr 1;omega));exact ⟨by rw [hk];rfl,a0⟩)) fun f0=>jCO 6 rfl<|sMul 2 n<|cS (r3_mod i (2*n) (od) a0.flat) fun _ g0=>?_;have m0:=Int.emod_nonneg i (by omega:((2*n):Int)≠0);have n0:=Int.emod_lt_of_pos i (by omega:(0:Int)<(2*n));refine jOR 7 rfl<|retT [I (i%(2*n)), .bool true] ?_;have hk:idxV i n p=some (i%(2*n)):=(by unfold idxV;(repeat' split)<;>first|rfl|(exfalso;omega)|(congr 1;omega));exact ⟨by rw [hk];rfl,g0⟩)) fun e0=>?_
 refine jCC 6 rfl<|cE p 2 (fun h0=>jCO 4 rfl<|cS (r3_mod i n (od) hS.flat) fun _ i0=>(by have m0:=Int.emod_nonneg i (by omega:(n:Int)≠0);have n0:=Int.emod_lt_of_pos i (by omega:(0:Int)<n);refine jOR 7 rfl<|retT [I (i%n), .bool true] ?_;have hk:idxV i n p=some (i%n):=(by unfold idxV;(repeat' split)<;>first|rfl|(exfalso;omega)|(congr 1;omega));exact ⟨by rw [hk];rfl,i0⟩)) fun h0=>?_
 refine jCC 6 rfl<|CE p 3 (fun j0=>jCR 10 rfl<|retT [I 0, .bool false]<|(by have hk:idxV i n p=none:=(by unfold idxV;(repeat' split)<;>first|rfl|(exfalso;omega));exact ⟨by rw [hk];rfl,hS⟩)) fun j0=>jCO 5 rfl<|SD 50 (i>=0) (fun k0=>jOR 17 rfl<|retT [I 0, .bool false]<|(by have hk:idxV i n p=none:=(by unfold idxV;(repeat' split)<;>first|rfl|(exfalso;omega));exact ⟨by rw [hk];rfl,hS⟩)) fun k0=>jOC 6 rfl<|CD (i<n) (fun l0=>jCR 10 rfl<|retT [I 0, .bool false]<|(by have hk:idxV i n p=none:=(by unfold idxV;(repeat' split)<;>first|rfl|(exfalso;omega));exact ⟨by rw [hk];rfl,hS⟩)) fun l0=>jCR 10 rfl<|retT [I i, .bool true] ?_
 have hk:idxV i n p=some i:=by unfold idxV;(repeat' split)<;>first|rfl|(exfalso;omega)|(congr 1;omega)
 exact ⟨by rw [hk];rfl,hS⟩
end Go.Proofs.YtghcddbhllkbmaaGreat

namespace Go.Proofs.YtghcddbhllkbmaaGreat
open Go Go.E Go.Proofs.Tryz
set_option linter.all false
set_option maxRecDepth 100000
set_option maxHeartbeats 2000000
variable {W w:World} {H:Chunk} {F:List Chunk}
theorem p1_mul (a:Int) (b:Int) (l:Int) (hl:l<=4611686018427387904) (hS:Sat W w (H::F)):
  Ro prog 139 #[I a,I b,I l] (.tuple #[I (mulV a b l), .bool (mulOK a b l)]) W w (H::F):=by
 refine callsK 30 func139 rfl<|jCO 12 rfl<|sD 10 (a<0) (fun a0=>jOR 18 rfl<|retT [I 0, .bool false]<|(by obtain ⟨e1,e2⟩:=mul_f (a:=a) (b:=b) (l:=l) (by first|omega|(have:=mul_gt_of (a:=a) (b:=b) (l:=l) om om om;omega));exact ⟨by rw [e1,e2];rfl,hS⟩)) fun a0=>pu4<|sD 14 (b<0) (fun b0=>jOR 14 rfl<|retT [I 0, .bool false]<|(by obtain ⟨e1,e2⟩:=mul_f (a:=a) (b:=b) (l:=l) (by first|omega|(have:=mul_gt_of (a:=a) (b:=b) (l:=l) om om om;omega));exact ⟨by rw [e1,e2];rfl,hS⟩)) fun b0=>jOC 5 rfl<|cD (l<0) (fun c0=>jCR 8 rfl<|retT [I 0, .bool false]<|(by obtain ⟨e1,e2⟩:=mul_f (a:=a) (b:=b) (l:=l) (by first|omega|(have:=mul_gt_of (a:=a) (b:=b) (l:=l) om om om;omega));exact ⟨by rw [e1,e2];rfl,hS⟩)) fun c0=>jCO 8 rfl<|SD 20 (b>0) (fun d0=>jOC 12 rfl<|(by have hm:=mul_le_of (a:=a) (b:=b) (l:=l) om om om om;refine jCO 3 rfl<|sMul a b<|jOR 5 rfl<|retT [I (a*b), .bool true] ?_;obtain ⟨e1,e2⟩:=mul_t (a:=a) (b:=b) (l:=l) om;exact ⟨by rw [e1,e2];rfl,hS⟩)) fun d0=>?_
 refine pu3<|gY<|sQuo l b<|jOC 4 rfl<|cD (a>(l.tdiv b)) (fun e0=>jCR 8 rfl<|retT [I 0, .bool false]<|(by obtain ⟨e1,e2⟩:=mul_f (a:=a) (b:=b) (l:=l) (by first|omega|(have:=mul_gt_of (a:=a) (b:=b) (l:=l) om om om;omega));exact ⟨by rw [e1,e2];rfl,hS⟩)) fun e0=>jCC 3 rfl ?_
 have hm:=mul_le_of (a:=a) (b:=b) (l:=l) om om om om
 refine jCO 3 rfl<|sMul a b<|jOR 5 rfl<|retT [I (a*b), .bool true] ?_
 obtain ⟨e1,e2⟩:=mul_t (a:=a) (b:=b) (l:=l) om
 exact ⟨by rw [e1,e2];rfl,hS⟩
def areaOK (w h m:Int):Bool:=decide (sizeP w h m)
def areaV (w h m:Int):Int:=if areaOK w h m=true then w*h else 0
theorem area_eq {w h m:Int} (h1:1<=w/\w<=128) (h2:1<=h/\h<=128) (h3:1<=m/\m<=4294967296):areaOK w h m=mulOK w h 4096/\areaV w h m=mulV w h 4096:=by
  have e:areaOK w h m=mulOK w h 4096:=(by unfold areaOK mulOK;exact decide_eq_decide.2 (by unfold sizeP;omega))
  exact ⟨e,(by unfold areaV mulV;rw [e])⟩
theorem area_no {w h m:Int} (h1:¬((1<=w/\w<=128)/\(1<=h/\h<=128)/\1<=m/\m<=4294967296)):areaOK w h m=false/\areaV w h m=0:=by
  have e:areaOK w h m=false:=decide_eq_false (by unfold sizeP;omega)
  exact ⟨e,(by unfold areaV;rw [e];rfl)⟩
theorem p4_area (w0:Int) (h0:Int) (m0:Int) (hS:Sat W w (H::F)):
  Ro prog 94 #[I w0,I h0,I m0] (.tuple #[I (areaV w0 h0 m0), .bool (areaOK w0 h0 m0)]) W w (H::F):=by
 refine callsK 35 func94 rfl<|jCO 12 rfl<|sD 10 (w0<1) (fun a0=>jOR 30 rfl<|retT [I 0, .bool false]<|(by obtain ⟨e1,e2⟩:=area_no (w:=w0) (h:=h0) (m:=m0) om;exact ⟨by rw [e1,e2];rfl,hS⟩)) fun a0=>pu4<|sD 14 (w0>128) (fun b0=>jOR 26 rfl<|retT [I 0, .bool false]<|(by obtain ⟨e1,e2⟩:=area_no (w:=w0) (h:=h0) (m:=m0) om;exact ⟨by rw [e1,e2];rfl,hS⟩)) fun b0=>pu4<|sD 18 (h0<1) (fun c0=>jOR 22 rfl<|retT [I 0, .bool false]<|(by obtain ⟨e1,e2⟩:=area_no (w:=w0) (h:=h0) (m:=m0) om;exact ⟨by rw [e1,e2];rfl,hS⟩)) fun c0=>pu4<|sD 22 (h0>128) (fun d0=>jOR 18 rfl<|retT [I 0, .bool false]<|(by obtain ⟨e1,e2⟩:=area_no (w:=w0) (h:=h0) (m:=m0) om;exact ⟨by rw [e1,e2];rfl,hS⟩)) fun d0=>pu4<|sD 26 (m0<1) (fun e0=>jOR 14 rfl<|retT [I 0, .bool false]<|(by obtain ⟨e1,e2⟩:=area_no (w:=w0) (h:=h0) (m:=m0) om;exact ⟨by rw [e1,e2];rfl,hS⟩)) fun e0=>jOC 5 rfl<|cD (m0>4294967296) (fun f0=>jCR 8 rfl<|retT [I 0, .bool false]<|(by obtain ⟨e1,e2⟩:=area_no (w:=w0) (h:=h0) (m:=m0) om;exact ⟨by rw [e1,e2];rfl,hS⟩)) fun f0=>jCO 6 rfl<|cS (p1_mul w0 h0 4096 (od) hS.flat) fun _ g0=>jOR 7 rfl<|retT [I (mulV w0 h0 4096), .bool (mulOK w0 h0 4096)] ?_
 obtain ⟨e1,e2⟩:=area_eq (w:=w0) (h:=h0) (m:=m0) om om om
 exact ⟨by rw [e1,e2];rfl,g0⟩
theorem p4_valid (p:Plane) (hp:Plane.Ok [H] p) (hS:Sat W w (H::F)):
  Ro prog 52 #[.agg (encPlane p).toArray] (.bool (planeOK p.v)) W w (H::F):=by
 have g0:=hp.pix.ll
 refine callsK 42 func52 rfl<|jCO 2 rfl<|sBx hS (encPlane p) fun _ _ f0=>gOO f0 11 [0,0,0] rfl<|cS (p4_area p.w p.h p.max_ f0.flat) fun _ b0=>jOO 13 rfl<|SBn 19 (areaOK p.w p.h p.max_) (fun c0=>jOR 16 rfl<|retT [.bool false]<|⟨rB (planeOK_f1 (p:=p.v) (by intro h9;exact c0 (decide_eq_true h9.1))).symm,(b0.dropAt 0 rfl)⟩) fun c0=>gOC b0 8 [0] rfl<|CN (p.pix.n:Int) (areaV p.w p.h p.max_) (fun h0=>jCR 7 rfl<|retT [.bool false]<|⟨rB (planeOK_f1 (p:=p.v) (by have hx:=c0;unfold areaV at*;rw [if_pos hx] at*;simp only [Plane.v];omega)).symm,(b0.dropAt 0 rfl)⟩) fun h0=>jCC 4 rfl ?_
 have i0:sizeP p.v.w p.v.h p.v.max_/\(p.v.pix.length:Int)=p.v.w*p.v.h:=by have hx:=c0;unfold areaV at*;rw [if_pos hx] at*;exact ⟨of_decide_eq_true hx,by simp only [Plane.v];omega⟩
 refine gCC b0 8 [0] rfl<|loopF [1,27,28] (γ:=Nat) (fun i R=>⟨[(29,I (i:Int))],R,p.pix.n-i,i<=p.pix.n/\(pixOK p.max_ (p.pix.l.take i)=true)⟩) 0 ⟨b0,om,by rfl⟩ ?_
 rintro i ρ _ ⟨a0,hi,hE⟩
 exact jCC 6 rfl<|CD ((i:Int)<(p.pix.n:Int)) (fun j0=>jCR 11 rfl<|retT [.bool true]<|⟨rB (planeOK_t (p:=p.v) i0 (all_of_take hE (by simp only [Plane.v];omega))).symm,(a0.dropAt 0 rfl)⟩) fun j0=>jCO 6 rfl<|sIN hp.pix i fun e0 _ _ d0 l0=>sMp a0 (l0.up 1 rfl) 0 (I e0)<|jOO 8 rfl<|sD 35 (e0<0) (fun m0=>jOR 19 rfl<|retT [.bool false]<|⟨rB (planeOK_f2 (p:=p.v) (all_false_at d0 (decide_eq_false (by simp only [Plane.v];omega)))).symm,(a0.dropAt 0 rfl)⟩) fun m0=>gOC a0 7 [0] rfl<|CD (e0>p.max_) (fun o0=>jCO 4 rfl<|sAdd (i:Int) 1<|jOI 2 rfl<|⟨i+1,od,alB,a0,om,all_succ hE d0 (decide_eq_true om)⟩) fun o0=>jCR 11 rfl<|retT [.bool false]<|⟨rB (planeOK_f2 (p:=p.v) (all_false_at d0 (decide_eq_false (by simp only [Plane.v];omega)))).symm,(a0.dropAt 0 rfl)⟩
theorem p7_within (x:Int) (m:Int) (hm:-4611686018427387904<=m/\m<=4611686018427387904) (hS:Sat W w (H::F)):
  Ro prog 162 #[I x,I m] (.bool (decide (-m<=x/\x<=m))) W w (H::F):=by
 exact callsK 14 func162 rfl<|jCO 8 rfl<|stepY (I (-m)) rfl rfl (Y_neg m rfl kr)<|pu3<|SD 9 ((-m)<=x) (fun a0=>jOR 8 rfl<|retT [.bool false]<|⟨rB bq,hS⟩) fun a0=>jOR 8 rfl<|retT [.bool (decide ((x:Int)<=m))]<|⟨rB bq,hS⟩
theorem p7_weights (ax:Option Addr) (nx kx:Nat) (x:List Int) (hx:RdT Go.E.encI 1 [H] ax nx kx x) (hS:Sat W w (H::F)):
  Ro prog 159 #[.slice ax nx kx] (I (wCode x)) W w (H::F):=by
 have k0:=hx.ll
 refine callsK 23 func159 rfl<|jCO 12 rfl<|sE 8 (nx:Int) 0 (fun e0=>jOR 14 rfl<|retT [I 9]<|⟨by unfold wCode;rw [if_pos om];rfl,hS⟩) fun e0=>jOC 6 rfl<|cD ((nx:Int)>81) (fun f0=>jCR 7 rfl<|retT [I 9]<|⟨by unfold wCode;rw [if_pos om];rfl,hS⟩) fun f0=>jCC 11 rfl<|loopF [13,14] (γ:=Nat) (fun i R=>⟨[(15,I (i:Int))],R,nx-i,i<=nx/\(areW (x.take i)=true)⟩) 0 ⟨hS,om,by rfl⟩ ?_
 rintro i ρ _ ⟨b0,hi,hE⟩
 exact jCC 6 rfl<|CD ((i:Int)<(nx:Int)) (fun g0=>jCR 11 rfl<|retT [I 0]<|(by have j0:areW x=true:=all_of_take hE om;exact ⟨by unfold wCode;rw [if_neg om,if_pos j0];rfl,b0⟩)) fun g0=>jCO 6 rfl<|sIN hx i fun a0 _ _ c0 h0=>sMp b0 (h0.up 0 rfl) 0 (I a0)<|jOO 6 rfl<|cS (p7_within a0 32767 (od) b0.flat) fun _ d0=>jOC 3 rfl<|cDn (-(32767:Int)<=a0/\a0<=(32767:Int)) (fun i0=>jCO 4 rfl<|sAdd (i:Int) 1<|jOI 2 rfl<|⟨i+1,od,alB,d0,om,all_succ hE c0 (decide_eq_true om)⟩) fun i0=>jCR 11 rfl<|retT [I 10]<|(by have j0:areW x=false:=all_false_at c0 (decide_eq_false om);exact ⟨by unfold wCode;rw [if_neg om,j0,if_neg (by decide)];rfl,d0⟩)
theorem p7_bounds (ax:Option Addr) (nx kx:Nat) (x:List Int) (lo:Int) (up:Int) (hx:RdT Go.E.encI 1 [H] ax nx kx x) (hS:Sat W w (H::F)):
  Ro prog 160 #[.slice ax nx kx,I lo,I up] (.tuple #[I (bndLo x lo up),I (bndHi x lo up), .bool (bndOK x lo up)]) W w (H::F):=by
 have t0:=hx.ll
 refine callsK 66 func160 rfl<|jCO 11 rfl<|cS (p7_weights ax nx kx x (hx.fl 0) hS.flat) fun _ c0=>pu2<|SN 16 (wCode x) 0 (fun i0=>jOR 26 rfl<|retT [I 0,I 0, .bool false]<|(by obtain ⟨e1,e2,e3⟩:=bnd_bad (l:=x) (lo:=lo) (hi:=up) om;exact ⟨by rw [e1,e2,e3];rfl,c0⟩)) fun i0=>pu5<|sD 21 (lo>up) (fun j0=>jOR 21 rfl<|retT [I 0,I 0, .bool false]<|(by obtain ⟨e1,e2,e3⟩:=bnd_bad (l:=x) (lo:=lo) (hi:=up) om;exact ⟨by rw [e1,e2,e3];rfl,c0⟩)) fun j0=>pu1<|gY<|cS (p7_within lo 68719476736 (od) c0.flat) fun _ e0=>pu3<|SDn 26 (-(68719476736:Int)<=lo/\lo<=(68719476736:Int)) (fun k0=>jOR 16 rfl<|retT [I 0,I 0, .bool false]<|(by obtain ⟨e1,e2,e3⟩:=bnd_bad (l:=x) (lo:=lo) (hi:=up) om;exact ⟨by rw [e1,e2,e3];rfl,e0⟩)) fun k0=>pu1<|gY<|cS (p7_within up 68719476736 (od) e0.flat) fun _ f0=>jOC 4 rfl<|CDn (-(68719476736:Int)<=up/\up<=(68719476736:Int)) (fun l0=>jCR 9 rfl<|retT [I 0,I 0, .bool false]<|(by obtain ⟨e1,e2,e3⟩:=bnd_bad (l:=x) (lo:=lo) (hi:=up) om;exact ⟨by rw [e1,e2,e3];rfl,f0⟩)) fun l0=>jCC 3 rfl ?_
 obtain ⟨w0,u0,hw⟩:=wCode_len (l:=x) om
 refine jCC 14 rfl<|loopF [1,2,31,32] (γ:=Nat×Int×Int) (fun ⟨i,a,b⟩ R=>⟨[(33,I (i:Int)),(9,I a),(10,I b)],R,nx-i,i<=nx/\(a=sumLo (x.take i) lo up)/\(b=sumHi (x.take i) lo up)/\(-(2251799813685248*(i:Int))<=a/\a<=2251799813685248*(i:Int)/\-(2251799813685248*(i:Int))<=b/\b<=2251799813685248*(i:Int))⟩) (0,0,0) ⟨f0,om,by rfl,by rfl,om⟩ ?_
 rintro ⟨i,a,b⟩ ρ _ ⟨d0,hi,ha,hb,v0⟩
 exact jCC 6 rfl<|CD ((i:Int)<(nx:Int)) (fun m0=>jCO 9 rfl<|cS (p7_within a 17592186044416 (od) d0.flat) fun _ g0=>pu2<|SDn 59 (-(17592186044416:Int)<=a/\a<=(17592186044416:Int)) (fun n0=>jOR 16 rfl<|retT [I 0,I 0, .bool false]<|(by obtain ⟨e1,e2,e3⟩:=bnd_bad2 (l:=x) (i:=i) ha hb om (by unfold accP;omega);exact ⟨by rw [e1,e2,e3];rfl,g0⟩)) fun n0=>pu1<|gY<|cS (p7_within b 17592186044416 (od) g0.flat) fun _ h0=>jOC 4 rfl<|CDn (-(17592186044416:Int)<=b/\b<=(17592186044416:Int)) (fun o0=>jCR 9 rfl<|retT [I 0,I 0, .bool false]<|(by obtain ⟨e1,e2,e3⟩:=bnd_bad2 (l:=x) (i:=i) ha hb om (by unfold accP;omega);exact ⟨by rw [e1,e2,e3];rfl,h0⟩)) fun o0=>jCR 12 rfl<|retT [I a,I b, .bool true]<|(by obtain ⟨e1,e2,e3⟩:=bnd_ret (l:=x) (i:=i) om om om ha hb om (by unfold accP;omega) (by unfold accP;omega);exact ⟨by rw [e1,e2,e3];rfl,h0⟩)) fun m0=>jCO 6 rfl<|sIN hx i fun a0 _ _ b0 p0=>(by have q0:=areW_at hw b0;have r0:=mul_abs (A:=32767) (B:=68719476736) q0 (b:=lo) om;have s0:=mul_abs (A:=32767) (B:=68719476736) q0 (b:=up) om;exact sMp d0 (p0.up 0 rfl) 0 (I a0)<|jOO 8 rfl<|sMul a0 lo<|pu2<|sMul a0 up<|stepY (I (min (a0*lo) (a0*up))) rfl rfl (Y_min2 (a0*lo) (a0*up) rfl rfl kr kr)<|sAdd a (min (a0*lo) (a0*up))<|jOO 7 rfl<|sMul a0 lo<|pu2<|sMul a0 up<|stepY (I (max (a0*lo) (a0*up))) rfl rfl (Y_max2 (a0*lo) (a0*up) rfl rfl kr kr)<|sAdd b (max (a0*lo) (a0*up))<|jOO 5 rfl<|sAdd (i:Int) 1<|jOI 2 rfl<|⟨(i+1,(a+(min (a0*lo) (a0*up))),(b+(max (a0*lo) (a0*up)))),od,alB,d0,om,by have e:=sum_at (f:=fun w=>min (w*lo) (w*up)) b0;unfold sumLo at*;omega,by have e:=sum_at (f:=fun w=>max (w*lo) (w*up)) b0;unfold sumHi at*;omega,om⟩)
theorem p7_shift (a:Int) (s:Int) (hS:Sat W w (H::F)):
  Ro prog 129 #[I a,I s] (I (shiftV a s)) W w (H::F):=by
 exact callsK 26 func129 rfl<|jCO 9 rfl<|cS (p7_within a 17592186044416 (od) hS.flat) fun _ a0=>pu2<|SDn 8 (-(17592186044416:Int)<=a/\a<=(17592186044416:Int)) (fun b0=>jOR 17 rfl<|retT [I 0]<|⟨by unfold shiftV;rw [if_neg (by unfold accP;omega)];rfl,a0⟩) fun b0=>pu4<|sD 12 (s<0) (fun c0=>jOR 13 rfl<|retT [I 0]<|⟨by unfold shiftV;rw [if_neg (by unfold accP;omega)];rfl,a0⟩) fun c0=>jOC 5 rfl<|cD (s>24) (fun d0=>jCR 7 rfl<|retT [I 0]<|⟨by unfold shiftV;rw [if_neg (by unfold accP;omega)];rfl,a0⟩) fun d0=>jCC 9 rfl<|cE s 0 (fun e0=>jCR 8 rfl<|retT [I a]<|⟨by unfold shiftV;rw [if_pos (by unfold accP;omega),if_pos om];rfl,a0⟩) fun e0=>jCC 3 rfl<|(by have hp:=pow2_pos ((s-1)).toNat;have f0:=pow2_le (a:=((s-1)).toNat) (b:=24) om;exact jCO 3 rfl<|sSub s 1<|stepY (I (2^((s-1)).toNat)) rfl rfl (Y_shl1 (k':= .i64) (s-1) rfl kr kr om)<|sAdd a (2^((s-1)).toNat)<|pu1<|stepY (I ((a+(2^((s-1)).toNat))/2^s.toNat)) rfl rfl (Y_shrS (k':= .i64) (a+(2^((s-1)).toNat)) s rfl kr kr om)<|jOR 4 rfl<|retT [I ((a+(2^((s-1)).toNat))/2^s.toNat)]<|⟨by unfold shiftV;rw [if_pos (by unfold accP;omega),if_neg om];rfl,a0⟩)
theorem p7_span (lo:Int) (up:Int) (s:Int) (hS:Sat W w (H::F)):
    Ro prog 163 #[.int .i64 lo, .int .i64 up, .int .i64 s] (.tuple #[.int .i64 (shiftV lo s), .int .i64 (shiftV up s)]) W w (H::F):=by
  exact callsK 14 func163 rfl<|jCO 10 rfl<|cS (p7_shift lo s hS.flat) fun c0 a0=>pu2<|cS (p7_shift up s a0.flat) fun d0 b0=>jOR 5 rfl<|retT [.int .i64 (shiftV lo s), .int .i64 (shiftV up s)]<|⟨rfl,b0⟩
theorem p3_valid (e0:Edge) (m:Int) (hS:Sat W w (H::F)):
  Ro prog 124 #[.agg #[I e0.policy,I e0.fill],I m] (.bool (decide ((e0.policy=3/\0<=e0.fill/\e0.fill<=m)\/(0<=e0.policy/\e0.policy<3/\e0.fill=0)))) W w (H::F):=by
 exact callsK 25 func124 rfl<|jCO 2 rfl<|sBx hS [I e0.policy,I e0.fill] fun _ _ a0=>gOC a0 18 [0] rfl<|cE e0.policy 0 (fun b0=>jCC 2 rfl<|cT _ (beq_iff_eq.2 b0)<|gCR a0 11 [0] rfl<|retT [.bool ((e0.fill:Int)==0)]<|⟨rB bq,(a0.dropAt 0 rfl)⟩) fun b0=>jCC 6 rfl<|cE e0.policy 1 (fun c0=>jCC 2 rfl<|cT _ (beq_iff_eq.2 c0)<|gCR a0 11 [0] rfl<|retT [.bool ((e0.fill:Int)==0)]<|⟨rB bq,(a0.dropAt 0 rfl)⟩) fun c0=>jCC 5 rfl<|cE e0.policy 2 (fun g0=>gCR a0 11 [0] rfl<|retT [.bool ((e0.fill:Int)==0)]<|⟨rB bq,(a0.dropAt 0 rfl)⟩) fun g0=>jCC 6 rfl<|CE e0.policy 3 (fun i0=>jCR 9 rfl<|retT [.bool false]<|⟨rB bq,(a0.dropAt 0 rfl)⟩) fun i0=>gCO a0 6 [0] rfl<|SD 19 (0<=e0.fill) (fun k0=>jOR 11 rfl<|retT [.bool false]<|⟨rB bq,(a0.dropAt 0 rfl)⟩) fun k0=>gOR a0 11 [0] rfl<|retT [.bool (decide ((e0.fill:Int)<=m))]<|⟨rB bq,(a0.dropAt 0 rfl)⟩
theorem p8_first (x:Int) (hS:Sat W w (H::F)):
  Ro prog 188 #[I x] (.bool (decide ((-128:Int)<=x/\x<=(256:Int)))) W w (H::F):=by
 exact callsK 9 func188 rfl<|jCO 10 rfl<|SD 5 (-128<=x) (fun a0=>jOR 7 rfl<|retT [.bool false]<|⟨rB bq,hS⟩) fun a0=>jOR 7 rfl<|retT [.bool (decide ((x:Int)<=256))]<|⟨rB bq,hS⟩
theorem p8_valid (ax:Option Addr) (nx kx:Nat) (x:List Tap) (m:Int) (hx:RdT encTap 2 [H] ax nx kx x) (dx:∀z∈x,Tap.Ok [H] z) (hS:Sat W w (H::F)):
  Ro prog 164 #[.slice ax nx kx,I m] (I (tapsCode (x.map Tap.v) m)) W w (H::F):=by
 have F0:=hx.le;have A0:=hx.len
 refine callsK 60 func164 rfl<|jCO 11 rfl<|sD 11 (m<1) (fun i0=>jOR 23 rfl<|retT [I 8]<|(by have B0:(x.map Tap.v).length=nx:=(by simp [A0]);exact ⟨by unfold tapsCode;rw [if_neg om];rfl,hS⟩)) fun i0=>pu4<|sD 15 (m>128) (fun j0=>jOR 19 rfl<|retT [I 8]<|(by have B0:(x.map Tap.v).length=nx:=(by simp [A0]);exact ⟨by unfold tapsCode;rw [if_neg om];rfl,hS⟩)) fun j0=>pu5<|sE 20 (nx:Int) 0 (fun k0=>jOR 14 rfl<|retT [I 8]<|(by have B0:(x.map Tap.v).length=nx:=(by simp [A0]);exact ⟨by unfold tapsCode;rw [if_neg om];rfl,hS⟩)) fun k0=>jOC 6 rfl<|cD ((nx:Int)>128) (fun l0=>jCR 7 rfl<|retT [I 8]<|(by have B0:(x.map Tap.v).length=nx:=(by simp [A0]);exact ⟨by unfold tapsCode;rw [if_neg om];rfl,hS⟩)) fun l0=>jCC 11 rfl<|loopF [25,26] (γ:=Nat) (fun i R=>⟨[(27,I (i:Int))],R,nx-i,i<=nx/\(((x.map Tap.v).take i).all (fun x=>decide (tapCode x=0))=true)⟩) 0 ⟨hS,om,by rfl⟩ ?_
 rintro i ρ _ ⟨f0,hi,hE⟩
 refine jCC 6 rfl<|CD ((i:Int)<(nx:Int)) (fun m0=>jCR 11 rfl<|retT [I 0]<|(by have B0:(x.map Tap.v).length=nx:=(by simp [A0]);exact ⟨by unfold tapsCode;rw [if_pos om,firstErr_none hE om];rfl,f0⟩)) fun m0=>jCO 6 rfl<|sIN hx i fun a0 _ _ b0 n0=>?_
 have E0:=(dx a0 (List.mem_of_getElem? b0)).weights.len;have D0:=(dx a0 (List.mem_of_getElem? b0)).weights.le
 refine sMA f0 (n0.up 0 rfl) 0 [I a0.first, .slice a0.weights.a a0.weights.n a0.weights.k]<|sAlloc f0 zeroValue121 fun _ _ o0=>sTk o0 0 [I a0.first, .slice a0.weights.a a0.weights.n a0.weights.k] fun _ c0=>gOO c0 10 [0] rfl<|sE 35 (a0.weights.n:Int) 0 (fun p0=>jOR 20 rfl<|retT [I 9]<|(by have q0:=(c0.dropAt 0 rfl);have B0:(x.map Tap.v).length=nx:=(by simp [A0]);have v0:tapC a0.first a0.weights.l=9:=(by unfold tapC;rw [if_pos om]);exact ⟨by unfold tapsCode;rw [if_pos om,firstErr_at hE (map_at (f:=Tap.v) b0) (show tapC a0.first a0.weights.l≠0 by omega)];exact congrArg (fun c=>Ending.returned (packed [I c])) v0.symm,q0⟩)) fun p0=>gOC c0 7 [0] rfl<|cD ((a0.weights.n:Int)>8) (fun r0=>jCR 12 rfl<|retT [I 9]<|(by have s0:=(c0.dropAt 0 rfl);have B0:(x.map Tap.v).length=nx:=(by simp [A0]);have v0:tapC a0.first a0.weights.l=9:=(by unfold tapC;rw [if_pos om]);exact ⟨by unfold tapsCode;rw [if_pos om,firstErr_at hE (map_at (f:=Tap.v) b0) (show tapC a0.first a0.weights.l≠0 by omega)];exact congrArg (fun c=>Ending.returned (packed [I c])) v0.symm,s0⟩)) fun r0=>gCC c0 12 [0] rfl<|loopF [25,26,27,6,42,43] (γ:=Nat) (fun k R=>⟨[(44,I (k:Int))],R,a0.weights.n-k,k<=a0.weights.n/\(areW (a0.weights.l.take k)=true)⟩) 0 ⟨c0,om,by rfl⟩ ?_
 rintro k ρ _ ⟨d0,hk,hK⟩
 refine jCC 6 rfl<|CD ((k:Int)<(a0.weights.n:Int)) (fun t0=>gCO d0 9 [0] rfl<|cS (p8_first a0.first d0.flat) fun _ h0=>jOC 3 rfl<|cDn ((-128:Int)<=a0.first/\a0.first<=(256:Int)) (fun u0=>jCO 4 rfl<|sAdd (i:Int) 1<|jOI 2 rfl<|(by have C0:areW a0.weights.l=true:=all_of_take hK om;have v0:tapC a0.first a0.weights.l=0:=(by unfold tapC;rw [if_neg om,if_pos C0,if_pos om]);exact ⟨i+1,od,alB,(h0.dropAt 0 rfl),om,all_succ hE (map_at (f:=Tap.v) b0) (decide_eq_true v0)⟩)) fun u0=>jCR 11 rfl<|retT [I 2]<|(by have w0:=(h0.dropAt 0 rfl);have B0:(x.map Tap.v).length=nx:=(by simp [A0]);have C0:areW a0.weights.l=true:=all_of_take hK om;have v0:tapC a0.first a0.weights.l=2:=(by unfold tapC;rw [if_neg om,if_pos C0,if_neg om]);exact ⟨by unfold tapsCode;rw [if_pos om,firstErr_at hE (map_at (f:=Tap.v) b0) (show tapC a0.first a0.weights.l≠0 by omega)];exact congrArg (fun c=>Ending.returned (packed [I c])) v0.symm,w0⟩)) fun t0=>jCO 6 rfl<|sII (dx a0 (List.mem_of_getElem? b0)).weights (k:Int) fun g0 _ _ e0 x0=>?_
 rw [Int.toNat_natCast] at e0
 refine sMp d0 (x0.up 1 rfl) 0 (I g0)<|jOO 8 rfl<|sD 50 (g0<(-32767)) (fun y0=>jOR 22 rfl<|retT [I 10]<|(by have z0:=(d0.dropAt 0 rfl);have B0:(x.map Tap.v).length=nx:=(by simp [A0]);have C0:areW a0.weights.l=false:=all_false_at e0 (decide_eq_false om);have v0:tapC a0.first a0.weights.l=10:=(by unfold tapC;rw [if_neg om,C0,if_neg (by decide)]);exact ⟨by unfold tapsCode;rw [if_pos om,firstErr_at hE (map_at (f:=Tap.v) b0) (show tapC a0.first a0.weights.l≠0 by omega)];exact congrArg (fun c=>Ending.returned (packed [I c])) v0.symm,z0⟩)) fun y0=>jOC 5 rfl<|CD (g0>32767) (fun a1=>jCO 4 rfl<|sAdd (k:Int) 1<|jOI 2 rfl<|⟨k+1,od,alB,d0,om,all_succ hK e0 (decide_eq_true om)⟩) fun a1=>jCR 16 rfl<|retT [I 10] ?_
 have b1:=(d0.dropAt 0 rfl)
 have B0:(x.map Tap.v).length=nx:=by simp [A0]
 have C0:areW a0.weights.l=false:=all_false_at e0 (decide_eq_false om)
 have v0:tapC a0.first a0.weights.l=10:=by unfold tapC;rw [if_neg om,C0,if_neg (by decide)]
 exact ⟨by unfold tapsCode;rw [if_pos om,firstErr_at hE (map_at (f:=Tap.v) b0) (show tapC a0.first a0.weights.l≠0 by omega)];exact congrArg (fun c=>Ending.returned (packed [I c])) v0.symm,b1⟩
theorem p9_check (mx:Int) (kw:Int) (kh:Int) (aws:Option Addr) (nws kws:Nat) (ws:List Int) (sh:Int) (out:Int) (hws:RdT Go.E.encI 1 [H] aws nws kws ws) (hS:Sat W w (H::F)):
  Ro prog 126 #[I mx,I kw,I kh, .slice aws nws kws,I sh,I out] (I (convCode mx kw kh ws sh out)) W w (H::F):=by
 have t0:=hws.ll
 refine callsK 72 func126 rfl<|jCC 6 rfl<|cutF hS 0 [0,3,4,5] (γ:=Unit) (fun _ R=>⟨[(37, .bool (decide (¬((1<=kw/\kw<=9)/\(1<=kh/\kh<=9)/\(ws.length:Int)=kw*kh))))],R,0,True⟩) ?_ ?_
 ·exact jCO 4 rfl<|sD 18 (kw<1) (fun f0=>jOI 20 rfl<|⟨(),⟨⟨(Eq.trans (b:= .bool true) kr (congrArg Value.bool (decide_eq_true (p:=¬((1<=kw/\kw<=9)/\(1<=kh/\kh<=9)/\(ws.length:Int)=kw*kh)) om).symm)),trivial⟩,sA⟩,hS,trivial⟩) fun f0=>pu4<|sD 22 (kw>9) (fun g0=>jOI 16 rfl<|⟨(),⟨⟨(Eq.trans (b:= .bool true) kr (congrArg Value.bool (decide_eq_true (p:=¬((1<=kw/\kw<=9)/\(1<=kh/\kh<=9)/\(ws.length:Int)=kw*kh)) om).symm)),trivial⟩,sA⟩,hS,trivial⟩) fun g0=>pu4<|sD 26 (kh<1) (fun h0=>jOI 12 rfl<|⟨(),⟨⟨(Eq.trans (b:= .bool true) kr (congrArg Value.bool (decide_eq_true (p:=¬((1<=kw/\kw<=9)/\(1<=kh/\kh<=9)/\(ws.length:Int)=kw*kh)) om).symm)),trivial⟩,sA⟩,hS,trivial⟩) fun h0=>pu4<|sD 30 (kh>9) (fun i0=>jOI 8 rfl<|⟨(),⟨⟨(Eq.trans (b:= .bool true) kr (congrArg Value.bool (decide_eq_true (p:=¬((1<=kw/\kw<=9)/\(1<=kh/\kh<=9)/\(ws.length:Int)=kw*kh)) om).symm)),trivial⟩,sA⟩,hS,trivial⟩) fun i0=>pu4<|gY<|(by have w0:=mul_bd (a:=kw) (b:=kh) (A:=9) (B:=9) om om;exact sMul kw kh<|jOI 3 rfl<|⟨(),⟨⟨(Eq.trans (b:= .bool (((nws:Int):Int)!=(kw*kh))) kr (congrArg Value.bool bm)),trivial⟩,sA⟩,hS,trivial⟩)
 rintro _ ρ _ ⟨b0,_⟩
 refine cD (¬((1<=kw/\kw<=9)/\(1<=kh/\kh<=9)/\(ws.length:Int)=kw*kh)) (fun j0=>jCR 7 rfl<|retT [I 9]<|⟨(by unfold convCode;exact ssp),b0⟩) fun j0=>jCC 3 rfl<|cutF b0 0 [0,3,5] (γ:=Unit) (fun _ R=>⟨[(48, .bool (decide (¬(areW ws=true/\0<=sh/\sh<=24))))],R,0,True⟩) ?_ ?_
 · exact (by have u0:=Int.mul_pos (a:=kw) (b:=kh) om om;have v0:=mul_bd (a:=kw) (b:=kh) (A:=9) (B:=9) om om;have s0:wCode ws=0↔areW ws=true:=(by unfold wCode;rw [if_neg om];split<;>simp_all);exact jCO 2 rfl<|cS (p7_weights aws nws kws ws (hws.fl 0) b0.flat) fun _ c0=>pu2<|SN 41 (wCode ws) 0 (fun k0=>jOI 8 rfl<|⟨(),⟨⟨(Eq.trans (b:= .bool true) kr (congrArg Value.bool (decide_eq_true (p:=¬(areW ws=true/\0<=sh/\sh<=24)) (by (rw [<-s0];omega))).symm)),trivial⟩,sA⟩,c0,trivial⟩) fun k0=>pu4<|sD 45 (sh<0) (fun l0=>jOI 4 rfl<|⟨(),⟨⟨(Eq.trans (b:= .bool true) kr (congrArg Value.bool (decide_eq_true (p:=¬(areW ws=true/\0<=sh/\sh<=24)) (by (rw [<-s0];omega))).symm)),trivial⟩,sA⟩,c0,trivial⟩) fun l0=>jOI 4 rfl<|⟨(),⟨⟨(Eq.trans (b:= .bool (decide (sh>24))) kr (congrArg Value.bool (by rw [Bool.eq_iff_iff];simp only [decide_eq_true_eq,beq_iff_eq,bne_iff_ne,ne_eq,Bool.not_eq_true',decide_eq_false_iff_not,gt_iff_lt,ge_iff_le,Bool.and_eq_true,Bool.or_eq_true,Bool.not_eq_eq_eq_not,Bool.not_true,Bool.and_eq_false_imp,beq_eq_false_iff_ne]<;>(rw [<-s0];omega)))),trivial⟩,sA⟩,c0,trivial⟩)
 rintro _ ρ _ ⟨a0,_⟩
 refine cD (¬(areW ws=true/\0<=sh/\sh<=24)) (fun m0=>jCR 7 rfl<|retT [I 10]<|⟨(by unfold convCode;exact ssp),a0⟩) fun m0=>jCC 3 rfl<|cutF a0 0 [0,3] (γ:=Unit) (fun _ R=>⟨[(62, .bool (decide (¬((1<=mx/\mx<=4294967296)/\1<=out/\out<=4294967296))))],R,0,True⟩) ?_ ?_
 rotate_left
 · exact (by rintro _ ρ _ ⟨d0,_⟩;exact cD (¬((1<=mx/\mx<=4294967296)/\1<=out/\out<=4294967296)) (fun n0=>jCR 7 rfl<|retT [I 2]<|⟨(by unfold convCode;exact ssp),d0⟩) fun n0=>jCO 7 rfl<|cS (p7_bounds aws nws kws ws 0 mx (hws.fl 0) d0.flat) fun _ e0=>jOC 15 rfl<|CBn (bndOK ws 0 mx) (fun o0=>jCR 7 rfl<|retT [I 11]<|⟨(by unfold convCode;exact ssp),e0⟩) fun o0=>jCR 8 rfl<|retT [I 0]<|⟨(by unfold convCode;exact ssp),e0⟩)
 exact jCO 4 rfl<|sD 51 (mx<1) (fun p0=>jOI 12 rfl<|⟨(),⟨⟨(Eq.trans (b:= .bool true) kr (congrArg Value.bool (decide_eq_true (p:=¬((1<=mx/\mx<=4294967296)/\1<=out/\out<=4294967296)) om).symm)),trivial⟩,sA⟩,a0,trivial⟩) fun p0=>pu4<|sD 55 (mx>4294967296) (fun q0=>jOI 8 rfl<|⟨(),⟨⟨(Eq.trans (b:= .bool true) kr (congrArg Value.bool (decide_eq_true (p:=¬((1<=mx/\mx<=4294967296)/\1<=out/\out<=4294967296)) om).symm)),trivial⟩,sA⟩,a0,trivial⟩) fun q0=>pu4<|sD 59 (out<1) (fun r0=>jOI 4 rfl<|⟨(),⟨⟨(Eq.trans (b:= .bool true) kr (congrArg Value.bool (decide_eq_true (p:=¬((1<=mx/\mx<=4294967296)/\1<=out/\out<=4294967296)) om).symm)),trivial⟩,sA⟩,a0,trivial⟩) fun r0=>jOI 4 rfl<|⟨(),⟨⟨(Eq.trans (b:= .bool (decide (out>4294967296))) kr (congrArg Value.bool bm)),trivial⟩,sA⟩,a0,trivial⟩
theorem p10_check (mx:Int) (arow:Option Addr) (nrow krow:Nat) (row:List Int) (acol:Option Addr) (ncol kcol:Nat) (col:List Int) (sh:Int) (sh2:Int) (out:Int) (hrow:RdT Go.E.encI 1 [H] arow nrow krow row) (hcol:RdT Go.E.encI 1 [H] acol ncol kcol col) (hS:Sat W w (H::F)):
  Ro prog 130 #[I mx, .slice arow nrow krow, .slice acol ncol kcol,I sh,I sh2,I out] (I (sepCode mx row col sh sh2 out)) W w (H::F):=by
 have z0:=hrow.ll
 have y0:=hcol.ll
 refine callsK 98 func130 rfl<|jCC 15 rfl<|loopM 3<|roundK<|jCO 23 rfl<|sE 30 (nrow:Int) 0 (fun g0=>jOR 18 rfl<|retT [I 9]<|⟨(by unfold sepCode;exact ssp),hS⟩) fun g0=>jOC 6 rfl<|cD ((nrow:Int)>9) (fun h0=>jCR 11 rfl<|retT [I 9]<|⟨(by unfold sepCode;exact ssp),hS⟩) fun h0=>jCI 7 rfl<|roundK<|jCO 23 rfl<|sE 30 (ncol:Int) 0 (fun i0=>jOR 18 rfl<|retT [I 9]<|⟨(by unfold sepCode;exact ssp),hS⟩) fun i0=>jOC 6 rfl<|cD ((ncol:Int)>9) (fun j0=>jCR 11 rfl<|retT [I 9]<|⟨(by unfold sepCode;exact ssp),hS⟩) fun j0=>jCI 7 rfl<|roundK<|jCC 13 rfl<|cutF hS 0 [0,1,2,3,4,5] (γ:=Unit) (fun _ R=>⟨[(43, .bool (decide (¬(areW row=true/\areW col=true))))],R,0,True⟩) ?_ ?_
 · exact (by have B0:wCode row=0↔areW row=true:=(by unfold wCode;rw [if_neg om];split<;>simp_all);have A0:wCode col=0↔areW col=true:=(by unfold wCode;rw [if_neg om];split<;>simp_all);exact jCO 2 rfl<|cS (p7_weights arow nrow krow row (hrow.fl 0) hS.flat) fun _ c0=>pu2<|SN 39 (wCode row) 0 (fun k0=>jOI 5 rfl<|⟨(),⟨⟨(Eq.trans (b:= .bool true) kr (congrArg Value.bool (decide_eq_true (p:=¬(areW row=true/\areW col=true)) (by (rw [<-B0,<-A0];omega))).symm)),trivial⟩,sA⟩,c0,trivial⟩) fun k0=>pu1<|gY<|cS (p7_weights acol ncol kcol col (hcol.fl 0) c0.flat) fun _ l0=>jOI 3 rfl<|⟨(),⟨⟨(Eq.trans (b:= .bool (((wCode col):Int)!=0)) kr (congrArg Value.bool (by rw [Bool.eq_iff_iff];simp only [decide_eq_true_eq,beq_iff_eq,bne_iff_ne,ne_eq,Bool.not_eq_true',decide_eq_false_iff_not,gt_iff_lt,ge_iff_le,Bool.and_eq_true,Bool.or_eq_true,Bool.not_eq_eq_eq_not,Bool.not_true,Bool.and_eq_false_imp,beq_eq_false_iff_ne]<;>(rw [<-B0,<-A0];omega)))),trivial⟩,sA⟩,l0,trivial⟩)
 rintro _ ρ _ ⟨a0,_⟩
 refine cD (¬(areW row=true/\areW col=true)) (fun m0=>jCR 7 rfl<|retT [I 10]<|⟨(by unfold sepCode;exact ssp),a0⟩) fun m0=>jCC 3 rfl<|cutF a0 0 [0,1,2,3,5] (γ:=Unit) (fun _ R=>⟨[(57, .bool (decide (¬((0<=sh/\sh<=24)/\0<=sh2/\sh2<=24))))],R,0,True⟩) ?_ ?_
 ·exact jCO 4 rfl<|sD 46 (sh<0) (fun n0=>jOI 12 rfl<|⟨(),⟨⟨(Eq.trans (b:= .bool true) kr (congrArg Value.bool (decide_eq_true (p:=¬((0<=sh/\sh<=24)/\0<=sh2/\sh2<=24)) om).symm)),trivial⟩,sA⟩,a0,trivial⟩) fun n0=>pu4<|sD 50 (sh>24) (fun o0=>jOI 8 rfl<|⟨(),⟨⟨(Eq.trans (b:= .bool true) kr (congrArg Value.bool (decide_eq_true (p:=¬((0<=sh/\sh<=24)/\0<=sh2/\sh2<=24)) om).symm)),trivial⟩,sA⟩,a0,trivial⟩) fun o0=>pu4<|sD 54 (sh2<0) (fun p0=>jOI 4 rfl<|⟨(),⟨⟨(Eq.trans (b:= .bool true) kr (congrArg Value.bool (decide_eq_true (p:=¬((0<=sh/\sh<=24)/\0<=sh2/\sh2<=24)) om).symm)),trivial⟩,sA⟩,a0,trivial⟩) fun p0=>jOI 4 rfl<|⟨(),⟨⟨(Eq.trans (b:= .bool (decide (sh2>24))) kr (congrArg Value.bool bm)),trivial⟩,sA⟩,a0,trivial⟩
 rintro _ ρ _ ⟨b0,_⟩
 refine cD (¬((0<=sh/\sh<=24)/\0<=sh2/\sh2<=24)) (fun q0=>jCR 7 rfl<|retT [I 10]<|⟨(by unfold sepCode;exact ssp),b0⟩) fun q0=>jCC 3 rfl<|cutF b0 0 [0,1,2,3] (γ:=Unit) (fun _ R=>⟨[(71, .bool (decide (¬((1<=mx/\mx<=4294967296)/\1<=out/\out<=4294967296))))],R,0,True⟩) ?_ ?_
 ·exact jCO 4 rfl<|sD 60 (mx<1) (fun r0=>jOI 12 rfl<|⟨(),⟨⟨(Eq.trans (b:= .bool true) kr (congrArg Value.bool (decide_eq_true (p:=¬((1<=mx/\mx<=4294967296)/\1<=out/\out<=4294967296)) om).symm)),trivial⟩,sA⟩,b0,trivial⟩) fun r0=>pu4<|sD 64 (mx>4294967296) (fun s0=>jOI 8 rfl<|⟨(),⟨⟨(Eq.trans (b:= .bool true) kr (congrArg Value.bool (decide_eq_true (p:=¬((1<=mx/\mx<=4294967296)/\1<=out/\out<=4294967296)) om).symm)),trivial⟩,sA⟩,b0,trivial⟩) fun s0=>pu4<|sD 68 (out<1) (fun t0=>jOI 4 rfl<|⟨(),⟨⟨(Eq.trans (b:= .bool true) kr (congrArg Value.bool (decide_eq_true (p:=¬((1<=mx/\mx<=4294967296)/\1<=out/\out<=4294967296)) om).symm)),trivial⟩,sA⟩,b0,trivial⟩) fun t0=>jOI 4 rfl<|⟨(),⟨⟨(Eq.trans (b:= .bool (decide (out>4294967296))) kr (congrArg Value.bool bm)),trivial⟩,sA⟩,b0,trivial⟩
 rintro _ ρ _ ⟨d0,_⟩
 exact cD (¬((1<=mx/\mx<=4294967296)/\1<=out/\out<=4294967296)) (fun u0=>jCR 7 rfl<|retT [I 2]<|⟨(by unfold sepCode;exact ssp),d0⟩) fun u0=>jCO 6 rfl<|cS (p7_bounds arow nrow krow row 0 mx (hrow.fl 0) d0.flat) fun _ e0=>jOC 16 rfl<|CBn (bndOK row 0 mx) (fun v0=>jCR 7 rfl<|retT [I 11]<|⟨(by unfold sepCode;exact ssp),e0⟩) fun v0=>jCO 7 rfl<|cS (p7_span (bndLo row 0 mx) (bndHi row 0 mx) sh e0.flat) fun _ w0=>jOO 13 rfl<|cS (p7_bounds acol ncol kcol col (shiftV (bndLo row 0 mx) sh) (shiftV (bndHi row 0 mx) sh) (hcol.fl 0) w0.flat) fun _ f0=>jOC 15 rfl<|CBn (bndOK col (shiftV (bndLo row 0 mx) sh) (shiftV (bndHi row 0 mx) sh)) (fun x0=>jCR 7 rfl<|retT [I 11]<|⟨(by unfold sepCode;exact ssp),f0⟩) fun x0=>jCR 8 rfl<|retT [I 0]<|⟨(by unfold sepCode;exact ssp),f0⟩
def accCode (x y:List TapV) (mx s:Int):Int:=if x.all (fun t=>bndOK t.weights 0 mx)=true then (if y.all (fun t=>bndOK t.weights (runLo (spLo mx s) x) (runHi (spHi mx s) x))=true then 0 else 11) else 11
theorem p11_acc (ax:Option Addr) (nx kx:Nat) (x:List Tap) (ay:Option Addr) (ny ky:Nat) (y:List Tap) (mx:Int) (sh:Int) (hx:RdT encTap 2 [H] ax nx kx x) (dx:∀z∈x,Tap.Ok [H] z) (hy:RdT encTap 2 [H] ay ny ky y) (dy:∀z∈y,Tap.Ok [H] z) (hS:Sat W w (H::F)):
  Ro prog 165 #[.slice ax nx kx, .slice ay ny ky,I mx,I sh] (I (accCode (x.map Tap.v) (y.map Tap.v) mx sh)) W w (H::F):=by
 have F0:=hx.ll
 have G0:=hy.ll
 refine callsK 74 func165 rfl<|jCC 20 rfl<|loopF [1,2,3,21,22] (γ:=Nat×Int×Int) (fun ⟨i,lo,up⟩ R=>⟨[(23,I (i:Int)),(9,I lo),(10,I up)],R,nx-i,i<=nx/\(lo=runLo (spLo mx sh) ((x.map Tap.v).take i)/\up=runHi (spHi mx sh) ((x.map Tap.v).take i))/\(((x.map Tap.v).take i).all (fun t=>bndOK t.weights 0 mx)=true)⟩) (0,0,0) ⟨hS,om,by exact ⟨rfl,rfl⟩,by rfl⟩ ?_
 rintro ⟨i,lo,up⟩ ρ _ ⟨e0,hi,hr,hE⟩
 refine jCC 6 rfl<|CD ((i:Int)<(nx:Int)) (fun l0=>jCC 7 rfl<|(by have A0:(x.map Tap.v).all (fun t=>bndOK t.weights 0 mx)=true:=all_of_take hE (by simp;omega);have C0:lo=runLo (spLo mx sh) (x.map Tap.v):=(by rw [hr.1,List.take_of_length_le (by simp;omega)]);have D0:up=runHi (spHi mx sh) (x.map Tap.v):=(by rw [hr.2,List.take_of_length_le (by simp;omega)]);refine jCC 7 rfl<|loopF [9,10,56,57] (γ:=Nat) (fun j R=>⟨[(58,I (j:Int))],R,ny-j,j<=ny/\(((y.map Tap.v).take j).all (fun t=>bndOK t.weights (runLo (spLo mx sh) (x.map Tap.v)) (runHi (spHi mx sh) (x.map Tap.v)))=true)⟩) 0 ⟨e0,om,by rfl⟩ ?_;rintro j ρ _ ⟨f0,hj,hF⟩;exact jCC 6 rfl<|CD ((j:Int)<(ny:Int)) (fun m0=>jCR 11 rfl<|retT [I 0]<|(by have B0:=all_of_take hF (by simp;omega);exact ⟨by unfold accCode;rw [if_pos A0,if_pos B0];rfl,f0⟩)) fun m0=>jCO 6 rfl<|sIN hy j fun b0 _ _ d0 n0=>(by have x0:=(dy b0 (List.mem_of_getElem? d0)).weights.len;have q0:=(dy b0 (List.mem_of_getElem? d0)).weights.le;exact sMA f0 (n0.up 0 rfl) 0 [I b0.first, .slice b0.weights.a b0.weights.n b0.weights.k]<|sAlloc f0 zeroValue121 fun _ _ o0=>sTk o0 0 [I b0.first, .slice b0.weights.a b0.weights.n b0.weights.k] fun _ g0=>gOO g0 8 [0] rfl<|cS (p7_bounds b0.weights.a b0.weights.n b0.weights.k b0.weights.l lo up (RdT.flat ((dy b0 (List.mem_of_getElem? d0)).weights.up 1 (by rfl))) g0.flat) fun _ h0=>jOC 15 rfl<|cBn (bndOK b0.weights.l lo up) (fun p0=>jCO 4 rfl<|sAdd (j:Int) 1<|jOI 2 rfl<|⟨j+1,od,alB,(h0.dropAt 0 rfl),om,all_succ hF (map_at (f:=Tap.v) d0) (by simp only [Tap.v];rw [<-C0,<-D0];simp_all)⟩) fun p0=>jCR 11 rfl<|retT [I 11]<|(by have r0:=(h0.dropAt 0 rfl);have B0:=all_false_at (p:=fun t=>bndOK t.weights (runLo (spLo mx sh) (x.map Tap.v)) (runHi (spHi mx sh) (x.map Tap.v))) (map_at (f:=Tap.v) d0) (by simp only [Tap.v];rw [<-C0,<-D0];simp_all);exact ⟨by unfold accCode;rw [if_pos A0,if_neg (by rw [B0];decide)];rfl,r0⟩)))) fun l0=>?_
 refine jCO 7 rfl<|sIN hx i fun a0 _ _ c0 s0=>?_
 have z0:=(dx a0 (List.mem_of_getElem? c0)).weights.len;have y0:=(dx a0 (List.mem_of_getElem? c0)).weights.le
 refine sMA e0 (s0.up 0 rfl) 0 [I a0.first, .slice a0.weights.a a0.weights.n a0.weights.k]<|sAlloc e0 zeroValue121 fun _ _ t0=>pu1<|sTk t0 0 [I a0.first, .slice a0.weights.a a0.weights.n a0.weights.k] fun _ i0=>gOO i0 7 [0] rfl<|cS (p7_bounds a0.weights.a a0.weights.n a0.weights.k a0.weights.l 0 mx (RdT.flat ((dx a0 (List.mem_of_getElem? c0)).weights.up 1 (by rfl))) i0.flat) fun _ j0=>jOC 16 rfl<|CBn (bndOK a0.weights.l 0 mx) (fun u0=>jCR 12 rfl<|retT [I 11]<|(by have v0:=(j0.dropAt 0 rfl);have A0:=all_false_at (p:=fun t=>bndOK t.weights 0 mx) (map_at (f:=Tap.v) c0) (by simp only [Tap.v];simp_all);exact ⟨by unfold accCode;rw [if_neg (by rw [A0];decide)];rfl,v0⟩)) fun u0=>jCO 7 rfl<|cS (p7_span (bndLo a0.weights.l 0 mx) (bndHi a0.weights.l 0 mx) sh j0.flat) fun _ k0=>jOC 14 rfl<|cE (i:Int) 0 (fun w0=>?_) (fun w0=>?_)
 rotate_left
 ·exact jCO 5 rfl<|stepY (I (min lo (shiftV (bndLo a0.weights.l 0 mx) sh))) rfl rfl (Y_min2 lo (shiftV (bndLo a0.weights.l 0 mx) sh) rfl rfl kr kr)<|pu2<|stepY (I (max up (shiftV (bndHi a0.weights.l 0 mx) sh))) rfl rfl (Y_max2 up (shiftV (bndHi a0.weights.l 0 mx) sh) rfl rfl kr kr)<|jOO 6 rfl<|sAdd (i:Int) 1<|jOI 2 rfl<|⟨(i+1,(min lo (shiftV (bndLo a0.weights.l 0 mx) sh)),(max up (shiftV (bndHi a0.weights.l 0 mx) sh))),od,alB,(k0.dropAt 0 rfl),om,by
    have e1:=runLo_at (spLo mx sh) (map_at (f:=Tap.v) c0) om;have e2:=runHi_at (spHi mx sh) (map_at (f:=Tap.v) c0) om
    exact ⟨by rw [e1,<-hr.1];rfl,by rw [e2,<-hr.2];rfl⟩,all_succ hE (map_at (f:=Tap.v) c0) (by simp only [Tap.v];simp_all)⟩
 exact jCO 10 rfl<|stepY (I (min (shiftV (bndLo a0.weights.l 0 mx) sh) (shiftV (bndLo a0.weights.l 0 mx) sh))) rfl rfl (Y_min2 (shiftV (bndLo a0.weights.l 0 mx) sh) (shiftV (bndLo a0.weights.l 0 mx) sh) rfl rfl kr kr)<|pu2<|stepY (I (max (shiftV (bndHi a0.weights.l 0 mx) sh) (shiftV (bndHi a0.weights.l 0 mx) sh))) rfl rfl (Y_max2 (shiftV (bndHi a0.weights.l 0 mx) sh) (shiftV (bndHi a0.weights.l 0 mx) sh) rfl rfl kr kr)<|jOO 6 rfl<|sAdd (i:Int) 1<|jOI 2 rfl<|⟨(i+1,(min (shiftV (bndLo a0.weights.l 0 mx) sh) (shiftV (bndLo a0.weights.l 0 mx) sh)),(max (shiftV (bndHi a0.weights.l 0 mx) sh) (shiftV (bndHi a0.weights.l 0 mx) sh))),od,alB,(k0.dropAt 0 rfl),om,by
   have E0:i=0:=by omega
   subst E0
   have e1:=runLo_one (spLo mx sh) (map_at (f:=Tap.v) c0);have e2:=runHi_one (spHi mx sh) (map_at (f:=Tap.v) c0)
   rw [e1,e2];simp only [spLo,spHi,Tap.v];omega,all_succ hE (map_at (f:=Tap.v) c0) (by simp only [Tap.v];simp_all)⟩
theorem p11_check (s:Shape) (ax:Option Addr) (nx kx:Nat) (x:List Tap) (ay:Option Addr) (ny ky:Nat) (y:List Tap) (sh:Int) (sh2:Int) (out:Int) (hx:RdT encTap 2 [H] ax nx kx x) (dx:∀z∈x,Tap.Ok [H] z) (hy:RdT encTap 2 [H] ay ny ky y) (dy:∀z∈y,Tap.Ok [H] z) (hS:Sat W w (H::F)):
  Ro prog 132 #[.agg #[I s.w,I s.h,I s.max_], .slice ax nx kx, .slice ay ny ky,I sh,I sh2,I out] (I (resCode s.w s.h s.max_ (x.map Tap.v) (y.map Tap.v) sh sh2 out)) W w (H::F):=by
 have B0:=hx.le;have z0:=hx.len
 have C0:=hy.le;have A0:=hy.len
 refine callsK 77 func132 rfl<|jCO 2 rfl<|sBx hS [I s.w,I s.h,I s.max_] fun _ _ j0=>gOO j0 9 [0] rfl<|cS (p8_valid ax nx kx x s.w (hx.fl 1) (fun z hz=>(dx z hz).of_mem (mF 1)) j0.flat) fun _ g0=>jOC 9 rfl<|CN (tapsCode (x.map Tap.v) s.w) 0 (fun b0=>jCR 8 rfl<|retT [I (tapsCode (x.map Tap.v) s.w)]<|(by have l0:=(g0.dropAt 0 rfl);have hk:resCode s.w s.h s.max_ (x.map Tap.v) (y.map Tap.v) sh sh2 out=(tapsCode (x.map Tap.v) s.w):=(by unfold resCode;rw [if_neg b0]);exact ⟨by rw [hk];rfl,l0⟩)) fun b0=>gCO g0 8 [0] rfl<|cS (p8_valid ay ny ky y s.h (hy.fl 1) (fun z hz=>(dy z hz).of_mem (mF 1)) g0.flat) fun _ k0=>jOC 9 rfl<|CN (tapsCode (y.map Tap.v) s.h) 0 (fun c0=>jCR 8 rfl<|retT [I (tapsCode (y.map Tap.v) s.h)]<|(by have m0:=(k0.dropAt 0 rfl);have hk:resCode s.w s.h s.max_ (x.map Tap.v) (y.map Tap.v) sh sh2 out=(tapsCode (y.map Tap.v) s.h):=(by unfold resCode;rw [if_pos b0,if_neg c0]);exact ⟨by rw [hk];rfl,m0⟩)) fun c0=>jCC 4 rfl ?_
 have F0:=tapsCode_len (l:=x.map Tap.v) (n:=s.w) om;have G0:=tapsCode_len (l:=y.map Tap.v) (n:=s.h) om
 have D0:(x.map Tap.v).length=nx:=by simp [z0]
 have E0:(y.map Tap.v).length=ny:=by simp [A0]
 have y0:mulOK (nx:Int) (ny:Int) 4096=true↔(((x.map Tap.v).length:Nat):Int)*(((y.map Tap.v).length:Nat):Int)<=4096:=by rw [D0,E0];unfold mulOK;rw [decide_eq_true_eq];omega
 refine jCO 5 rfl<|cS (p1_mul (nx:Int) (ny:Int) 4096 (od) k0.flat) fun _ d0=>jOC 13 rfl<|CBn (mulOK (nx:Int) (ny:Int) 4096) (fun e0=>jCR 7 rfl<|retT [I 8]<|(by have n0:=(d0.dropAt 0 rfl);have hk:resCode s.w s.h s.max_ (x.map Tap.v) (y.map Tap.v) sh sh2 out=8:=(by unfold resCode;rw [if_pos b0,if_pos c0,if_neg (fun h=>e0 (y0.2 h))]);exact ⟨by rw [hk];rfl,n0⟩)) fun e0=>jCC 3 rfl<|cutF d0 0 [1,2,3,5,6] (γ:=Unit) (fun _ R=>⟨[(54, .bool (decide (¬((0<=sh/\sh<=24)/\0<=sh2/\sh2<=24))))],R,0,True⟩) ?_ ?_
 ·exact jCO 4 rfl<|sD 43 (sh<0) (fun o0=>jOI 12 rfl<|⟨(),⟨⟨(Eq.trans (b:= .bool true) kr (congrArg Value.bool (decide_eq_true (p:=¬((0<=sh/\sh<=24)/\0<=sh2/\sh2<=24)) om).symm)),trivial⟩,sA⟩,d0,trivial⟩) fun o0=>pu4<|sD 47 (sh>24) (fun p0=>jOI 8 rfl<|⟨(),⟨⟨(Eq.trans (b:= .bool true) kr (congrArg Value.bool (decide_eq_true (p:=¬((0<=sh/\sh<=24)/\0<=sh2/\sh2<=24)) om).symm)),trivial⟩,sA⟩,d0,trivial⟩) fun p0=>pu4<|sD 51 (sh2<0) (fun q0=>jOI 4 rfl<|⟨(),⟨⟨(Eq.trans (b:= .bool true) kr (congrArg Value.bool (decide_eq_true (p:=¬((0<=sh/\sh<=24)/\0<=sh2/\sh2<=24)) om).symm)),trivial⟩,sA⟩,d0,trivial⟩) fun q0=>jOI 4 rfl<|⟨(),⟨⟨(Eq.trans (b:= .bool (decide (sh2>24))) kr (congrArg Value.bool bm)),trivial⟩,sA⟩,d0,trivial⟩
 rintro _ ρ _ ⟨a0,_⟩
 refine cD (¬((0<=sh/\sh<=24)/\0<=sh2/\sh2<=24)) (fun f0=>jCR 7 rfl<|retT [I 10]<|(by have r0:=(a0.dropAt 0 rfl);have hk:resCode s.w s.h s.max_ (x.map Tap.v) (y.map Tap.v) sh sh2 out=10:=(by unfold resCode;rw [if_pos b0,if_pos c0,if_pos (y0.1 e0),if_neg f0]);exact ⟨by rw [hk];rfl,r0⟩)) fun f0=>jCC 3 rfl<|cutF a0 0 [1,2,3,6] (γ:=Unit) (fun _ R=>⟨[(70, .bool (decide (¬((1<=s.max_/\s.max_<=4294967296)/\1<=out/\out<=4294967296))))],R,0,True⟩) ?_ ?_
 rotate_left
 · exact (by rintro _ ρ _ ⟨h0,_⟩;refine cD (¬((1<=s.max_/\s.max_<=4294967296)/\1<=out/\out<=4294967296)) (fun i0=>jCR 7 rfl<|retT [I 2]<|(by have s0:=(h0.dropAt 0 rfl);have hk:resCode s.w s.h s.max_ (x.map Tap.v) (y.map Tap.v) sh sh2 out=2:=(by unfold resCode;rw [if_pos b0,if_pos c0,if_pos (y0.1 e0),if_pos (Classical.not_not.1 f0),if_neg i0]);exact ⟨by rw [hk];rfl,s0⟩)) fun i0=>gCO h0 9 [0] rfl<|cS (p11_acc ax nx kx x ay ny ky y s.max_ sh (hx.fl 1) (fun z hz=>(dx z hz).of_mem (mF 1)) (hy.fl 1) (fun z hz=>(dy z hz).of_mem (mF 1)) h0.flat) fun _ t0=>jOR 4 rfl<|retT [I (accCode (x.map Tap.v) (y.map Tap.v) s.max_ sh)] ?_;have u0:=(t0.dropAt 0 rfl);have hk:resCode s.w s.h s.max_ (x.map Tap.v) (y.map Tap.v) sh sh2 out=(accCode (x.map Tap.v) (y.map Tap.v) s.max_ sh):=(by unfold resCode;rw [if_pos b0,if_pos c0,if_pos (y0.1 e0),if_pos (Classical.not_not.1 f0),if_pos (Classical.not_not.1 i0)];rfl);exact ⟨by rw [hk];rfl,u0⟩)
 exact gCO a0 5 [0] rfl<|sD 58 (s.max_<1) (fun v0=>jOI 13 rfl<|⟨(),⟨⟨(Eq.trans (b:= .bool true) kr (congrArg Value.bool (decide_eq_true (p:=¬((1<=s.max_/\s.max_<=4294967296)/\1<=out/\out<=4294967296)) om).symm)),trivial⟩,sA⟩,a0,trivial⟩) fun v0=>gOO a0 5 [0] rfl<|sD 63 (s.max_>4294967296) (fun w0=>jOI 8 rfl<|⟨(),⟨⟨(Eq.trans (b:= .bool true) kr (congrArg Value.bool (decide_eq_true (p:=¬((1<=s.max_/\s.max_<=4294967296)/\1<=out/\out<=4294967296)) om).symm)),trivial⟩,sA⟩,a0,trivial⟩) fun w0=>pu4<|sD 67 (out<1) (fun x0=>jOI 4 rfl<|⟨(),⟨⟨(Eq.trans (b:= .bool true) kr (congrArg Value.bool (decide_eq_true (p:=¬((1<=s.max_/\s.max_<=4294967296)/\1<=out/\out<=4294967296)) om).symm)),trivial⟩,sA⟩,a0,trivial⟩) fun x0=>jOI 4 rfl<|⟨(),⟨⟨(Eq.trans (b:= .bool (decide (out>4294967296))) kr (congrArg Value.bool bm)),trivial⟩,sA⟩,a0,trivial⟩
def intCode (w h m:Int):Int:=if mostOK w h m=true then 0 else 11
theorem most_eq {w h m:Int} (h1:1<=w/\1<=h/\1<=m) (h2:mulOK w h 4294967296=true):mostOK w h m=mulOK (mulV w h 4294967296) m 4294967296/\mostV w h m=mulV (mulV w h 4294967296) m 4294967296:=by
  have hx:=of_decide_eq_true h2
  have hp:=Int.mul_pos (a:=w) (b:=h) (by omega) (by omega)
  have e0:mulV w h 4294967296=w*h:=by unfold mulV;rw [if_pos h2]
  rw [e0]
  have e:mostOK w h m=mulOK (w*h) m 4294967296:=by unfold mostOK mulOK;exact decide_eq_decide.2 (by omega)
  exact ⟨e,by unfold mostV mulV;rw [e]⟩
theorem most_no {w h m:Int} (h1:¬(1<=w/\1<=h/\1<=m)\/¬mulOK w h 4294967296=true):mostOK w h m=false/\mostV w h m=0:=by
  apply most_f
  intro hx
  rcases h1 with h1|h1
  · omega
  · exact h1 (decide_eq_true (by omega))
theorem p13_most (s:Shape) (hS:Sat W w (H::F)):
  Ro prog 186 #[.agg #[I s.w,I s.h,I s.max_]] (.tuple #[I (mostV s.w s.h s.max_), .bool (mostOK s.w s.h s.max_)]) W w (H::F):=by
 refine callsK 35 func186 rfl<|jCO 2 rfl<|sBx hS [I s.w,I s.h,I s.max_] fun _ _ a0=>gOO a0 11 [0] rfl<|sD 9 (s.w<1) (fun d0=>jOR 20 rfl<|retT [I 0, .bool false]<|(by have e0:=(a0.dropAt 0 rfl);obtain ⟨e1,e2⟩:=most_no (w:=s.w) (h:=s.h) (m:=s.max_) (.inl om);exact ⟨by rw [e1,e2];rfl,e0⟩)) fun d0=>gOO a0 5 [0] rfl<|sD 14 (s.h<1) (fun f0=>jOR 15 rfl<|retT [I 0, .bool false]<|(by have g0:=(a0.dropAt 0 rfl);obtain ⟨e1,e2⟩:=most_no (w:=s.w) (h:=s.h) (m:=s.max_) (.inl om);exact ⟨by rw [e1,e2];rfl,g0⟩)) fun f0=>gOC a0 6 [0] rfl<|cD (s.max_<1) (fun h0=>jCR 8 rfl<|retT [I 0, .bool false]<|(by have i0:=(a0.dropAt 0 rfl);obtain ⟨e1,e2⟩:=most_no (w:=s.w) (h:=s.h) (m:=s.max_) (.inl om);exact ⟨by rw [e1,e2];rfl,i0⟩)) fun h0=>gCO a0 8 [0,0] rfl<|cS (p1_mul s.w s.h 4294967296 (od) a0.flat) fun _ b0=>jOC 14 rfl<|CBn (mulOK s.w s.h 4294967296) (fun c0=>jCR 8 rfl<|retT [I 0, .bool false]<|(by have j0:=(b0.dropAt 0 rfl);obtain ⟨e1,e2⟩:=most_no (w:=s.w) (h:=s.h) (m:=s.max_) (.inr c0);exact ⟨by rw [e1,e2];rfl,j0⟩)) fun c0=>gCO b0 7 [0] rfl<|cS (p1_mul (mulV s.w s.h 4294967296) s.max_ 4294967296 (od) b0.flat) fun _ k0=>jOR 7 rfl<|retT [I (mulV (mulV s.w s.h 4294967296) s.max_ 4294967296), .bool (mulOK (mulV s.w s.h 4294967296) s.max_ 4294967296)] ?_
 have l0:=(k0.dropAt 0 rfl)
 obtain ⟨e1,e2⟩:=most_eq (w:=s.w) (h:=s.h) (m:=s.max_) om c0
 exact ⟨by rw [e1,e2];rfl,l0⟩
theorem p13_check (s:Shape) (hS:Sat W w (H::F)):
  Ro prog 157 #[.agg #[I s.w,I s.h,I s.max_]] (I (intCode s.w s.h s.max_)) W w (H::F):=by
 exact callsK 12 func157 rfl<|jCO 2 rfl<|sBx hS [I s.w,I s.h,I s.max_] fun _ _ a0=>gOO a0 7 [300] rfl<|cS (p13_most s a0.flat) fun _ b0=>jOC 13 rfl<|CBn (mostOK s.w s.h s.max_) (fun c0=>jCR 7 rfl<|retT [I 11]<|⟨(by unfold intCode;exact ssp),(b0.dropAt 0 rfl)⟩) fun c0=>jCR 8 rfl<|retT [I 0]<|⟨(by unfold intCode;exact ssp),(b0.dropAt 0 rfl)⟩
end Go.Proofs.YtghcddbhllkbmaaGreat
