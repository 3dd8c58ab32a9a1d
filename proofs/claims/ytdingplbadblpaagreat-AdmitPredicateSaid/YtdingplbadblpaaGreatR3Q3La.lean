import Derived.WalkKit
import Derived.Deep.Quiet
import Derived.KernelRfl
import Derived.Laws.BytesString
import Derived.Laws.Shifts
import Derived.Laws.IdiomStrings
import Derived.OpenShut
import Derived.Test.YtdingplbadblpaaGreatProg
import Derived.Test.YtdingplbadblpaaGreatR3Q3Tab
namespace Go.Proofs.YtdingplbadblpaaGreat
open Go Go.E Go.Proofs.Tryz
set_option linter.all false
set_option maxRecDepth 100000
set_option maxHeartbeats 2000000
variable {W w:World} {H:Chunk} {F:List Chunk}
structure Rct where
  x0:Int
  y0:Int
  x1:Int
  y1:Int
  deriving DecidableEq
def encRct (x:Rct):List Value:=[.int .i64 x.x0, .int .i64 x.y0, .int .i64 x.x1, .int .i64 x.y1]
def Asc (l:List Int):Prop:=l.Pairwise (·<·)
def insU (n:Int):List Int->List Int
  |[]=>[n]
  |x::l=>if n<x then n::x::l else if n=x then x::l else x::insU n l
def canonV (l:List Int):List Int:=l.foldl (fun a n=>insU n a) []
theorem mem_insU {n x:Int}:∀{l:List Int},x∈insU n l↔x=n\/x∈l
  |[]=>by simp [insU]
  |y::l=>by
    simp only [insU]
    split
    · simp
    · split
      · rename_i h;subst h;simp
      · simp only [List.mem_cons,mem_insU (l:=l)];constructor<;>(intro h;rcases h with h|h|h<;>simp [h])
theorem asc_insU {n:Int}:∀{l:List Int},Asc l->Asc (insU n l)
  |[],_=>by simp [insU,Asc]
  |y::l,h=>by
    have h1:=List.pairwise_cons.1 h
    simp only [insU]
    split
    · rename_i hn
      refine List.pairwise_cons.2 ⟨?_,h⟩
      intro z hz
      rcases List.mem_cons.1 hz with rfl|hz
      · exact hn
      · have:=h1.1 z hz;omega
    · split
      · exact h
      · rename_i h2 h3
        refine List.pairwise_cons.2 ⟨?_,asc_insU h1.2⟩
        intro z hz
        rcases mem_insU.1 hz with rfl|hz
        · omega
        · exact h1.1 z hz
theorem asc_ext : ∀ {a b : List Int}, Asc a -> Asc b -> (∀ x, x ∈ a ↔ x ∈ b) -> a = b
 | [], [], _, _, _ => rfl
 | [], y :: b, _, _, h => by have := (h y).2 (by simp); simp at this
 | x :: a, [], _, _, h => by have := (h x).1 (by simp); simp at this
 | x :: a, y :: b, ha, hb, h => by
  have a1 := List.pairwise_cons.1 ha
  have b1 := List.pairwise_cons.1 hb
  have hxy : x = y := by
   rcases List.mem_cons.1 ((h x).1 (by simp)) with e | e
   ·exact e
   ·rcases List.mem_cons.1 ((h y).2 (by simp)) with e2 | e2
    ·exact e2.symm
    ·have := a1.1 y e2; have := b1.1 x e; omega
  subst hxy
  rw [asc_ext a1.2 b1.2]
  intro z
  constructor
  ·intro hz
   rcases List.mem_cons.1 ((h z).1 (by simp [hz])) with e | e
   ·have := a1.1 z hz; omega
   ·exact e
  ·intro hz
   rcases List.mem_cons.1 ((h z).2 (by simp [hz])) with e | e
   ·have := b1.1 z hz; omega
   ·exact e
theorem insF_asc:∀(l:List Int) {a:List Int},Asc a->Asc (l.foldl (fun a n=>insU n a) a)
  |[],_,h=>h
  |_::l,_,h=>insF_asc l (asc_insU h)
theorem insF_mem {x:Int}:∀(l a:List Int),x∈l.foldl (fun a n=>insU n a) a↔x∈a\/x∈l
  |[],a=>by simp
  |n::l,a=>by
    rw [List.foldl_cons,insF_mem l,mem_insU,or_assoc,or_left_comm,List.mem_cons]
theorem asc_canon (l:List Int):Asc (canonV l):=insF_asc l (by simp [Asc])
theorem mem_canon {x:Int} {l:List Int}:x∈canonV l↔x∈l:=by unfold canonV;rw [insF_mem];simp
def uptoV (n:Nat):List Int:=(List.range n).map fun (i:Nat)=>(i:Int)
theorem upto_succ (n:Nat):uptoV (n+1)=uptoV n++[(n:Int)]:=by unfold uptoV;rw [List.range_succ,List.map_append];rfl
theorem upto_len (n:Nat):(uptoV n).length=n:=by simp [uptoV]
theorem mem_upto {n:Nat} {x:Int}:x∈uptoV n↔0<=x/\x<n:=by
  unfold uptoV
  simp only [List.mem_map,List.mem_range]
  constructor
  · rintro ⟨i,hi,rfl⟩;omega
  · intro h;exact ⟨x.toNat,by omega,by omega⟩
theorem upto_snoc_filter (n:Nat) (p:Int->Bool):(uptoV (n+1)).filter p=(uptoV n).filter p++(if p n=true then [(n:Int)] else []):=by
  rw [upto_succ,List.filter_append]
  congr 1
  cases h:p n<;>simp [List.filter,h]
theorem upto_map_snoc {α:Type} (n:Nat) (f:Int->α):(uptoV (n+1)).map f=(uptoV n).map f++[f n]:=by rw [upto_succ,List.map_append];rfl
def ceilV (a b:Int):Int:=if 0<=a/\1<=b then (if a%b=0 then a/b else a/b+1) else 0
def fineP (w h tw th:Int):Prop:=(1<=w/\w<=128)/\(1<=h/\h<=128)/\(1<=tw/\tw<=64)/\1<=th/\th<=64
instance (w h tw th:Int):Decidable (fineP w h tw th):=by unfold fineP;infer_instance
def colsN (w h tw th:Int):Int:=if fineP w h tw th then ceilV w tw else 0
def rowsN (w h tw th:Int):Int:=if fineP w h tw th then ceilV h th else 0
def tileV (w h tw th i:Int):Rct:=⟨i%colsN w h tw th*tw,i/colsN w h tw th*th,min (i%colsN w h tw th*tw+tw) w,min (i/colsN w h tw th*th+th) h⟩
def tilN (w h tw th:Int):Nat:=(colsN w h tw th*rowsN w h tw th).toNat
def idxV (i n p:Int):Option Int:=
  if 1<=n/\n<=128 then
    (if p=0 then some (min (max i 0) (n-1))
    else if p=1 then some (if n<=i%(2*n) then 2*n-1-i%(2*n) else i%(2*n))
    else if p=2 then some (i%n)
    else if p=3/\0<=i/\i<n then some i else none)
  else none
def kerP (n:Int):Prop:=1<=n/\n<=9
instance (n:Int):Decidable (kerP n):=by unfold kerP;infer_instance
def tapP (t:TapV):Bool:=decide (t.weights.length<=8/\-128<=t.first/\t.first<=256)
def accV (s:StageV):Prop:=fieldsP s/\(s.kind=1->kerP s.kW/\kerP s.kH)/\(s.kind=2->kerP s.row.length/\kerP s.col.length)/\(s.kind=3->s.x.all tapP=true/\s.y.all tapP=true)
instance (s:StageV):Decidable (accV s):=by unfold accV;infer_instance
def winF (kd k size:Int) (t:List TapV):Int:=if kd=1\/kd=2 then k-size/2 else if kd=3 then (match t[k.toNat]? with|some x=>x.first|none=>0) else k
def winC (kd k size:Int) (t:List TapV):Int:=if kd=1\/kd=2 then size else if kd=3 then (match t[k.toNat]? with|some x=>(x.weights.length:Int)|none=>0) else 1
def polV (s:StageV):Int:=if 3<s.kind then 3 else s.edgePolicy
def hitB (s:StageV) (n k size:Int) (t:List TapV) (m:Int):Bool:=(List.range (winC s.kind k size t).toNat).any fun j=>decide (idxV (winF s.kind k size t+j) n (polV s)=some m)
def needB (s:StageV) (n a b size:Int) (t:List TapV) (m:Int):Bool:=(List.range (b-a).toNat).any fun j=>hitB s n (a+j) size t m
def szOK (s:StageV) (sz:Int) (t:List TapV):Prop:=accV s->(¬(s.kind=1\/s.kind=2)\/(1<=sz/\sz<=9))/\(s.kind=3->t.all tapP=true)
def hitsV (s:StageV) (n a size:Int) (t:List TapV) (i:Nat) (m:Int):Bool:=(List.range i).any fun j=>hitB s n (a+j) size t m
def lenP (n a b:Int):Prop:=(1<=n/\n<=128)/\(0<=a/\a<=128)/\0<=b/\b<=128
instance (n a b:Int):Decidable (lenP n a b):=by unfold lenP;infer_instance
def needV (s:StageV) (n a b size:Int) (t:List TapV):List Int:=if lenP n a b/\accV s then (uptoV n.toNat).filter (needB s n a b size t) else []
def colsV (s:StageV) (w a b:Int):List Int:=needV s w a b (if s.kind=2 then s.row.length else s.kW) s.x
def rowsV (s:StageV) (h a b:Int):List Int:=needV s h a b (if s.kind=2 then s.col.length else s.kH) s.y
def someV (l:List Int) (a b:Int):Bool:=l.any fun v=>decide (a<=v/\v<b)
def tilesV (s:StageV) (w h tw th:Int) (r:Rct):List Int:=
  (uptoV (tilN w h tw th)).filter fun i=>someV (colsV s w r.x0 r.x1) (i%colsN w h tw th*tw) ((i%colsN w h tw th+1)*tw)&&someV (rowsV s h r.y0 r.y1) (i/colsN w h tw th*th) ((i/colsN w h tw th+1)*th)
def belongP (kind part:Int):Prop:=(kind=4/\(part=1\/part=2))\/(¬kind=4/\part=0)
instance (k p:Int):Decidable (belongP k p):=by unfold belongP;infer_instance
def cellsV (s:StageV) (h:Int) (r:Rct):Int:=
  if s.kind=1 then (r.x1-r.x0+s.kW-1)*(r.y1-r.y0+s.kH-1)
  else if s.kind=2 then (r.x1-r.x0)*(r.y1-r.y0+s.col.length-1)
  else if s.kind=3 then (r.x1-r.x0)*(rowsV s h r.y0 r.y1).length
  else if s.kind=4 then s.bins
  else if s.kind=5 then r.x1-r.x0+(r.y1-r.y0)+1
  else r.x1-r.x0
def alnV (n:Int):Int:=(n+15)/16*16
def bytV (s:StageV) (h:Int) (r:Rct):Int:=alnV (8*cellsV s h r)
def inP (r:Rct):Prop:=0<=r.x0/\r.x0<r.x1/\r.x1<=128/\0<=r.y0/\r.y0<r.y1/\r.y1<=128
instance (r:Rct):Decidable (inP r):=by unfold inP;infer_instance
structure Lay where
  ni:Int
  ss:List StageV
  sh:List Shape
  od:List Int
  tw:Int
  th:Int
def Lay.st (L:Lay) (n:Int):StageV:=stgAt L.ss L.ni n
def Lay.cut (L:Lay) (n:Int):Shape:=if (L.st n).kind=4 then shpAt L.sh (L.st n).a else shpAt L.sh n
def Lay.nx (L:Lay) (n:Int):Int:=colsN (L.cut n).w (L.cut n).h L.tw L.th
def Lay.ny (L:Lay) (n:Int):Int:=rowsN (L.cut n).w (L.cut n).h L.tw L.th
def Lay.cnt (L:Lay) (n:Int):Int:=if (L.st n).kind=4 then L.nx n*L.ny n+1 else L.nx n*L.ny n
def firstG (f:Int->Int):List Int->Int->Int
  |[],_=>0
  |x::l,n=>if x=n then 0 else f x+firstG f l n
def Lay.first (L:Lay) (n:Int):Int:=firstG L.cnt L.od n
def Lay.total (L:Lay):Int:=(L.od.map L.cnt).sum
def Lay.srcDeps (L:Lay) (s:StageV) (r:Rct) (x:Int):List Int:=
  if x<L.ni then [] else if s.barrier=true then (uptoV (L.cnt x).toNat).map (L.first x+·)
  else if (L.st x).kind=4 then [L.first x+L.cnt x-1]
  else (tilesV s (shpAt L.sh x).w (shpAt L.sh x).h L.tw L.th r).map (L.first x+·)
def Lay.needs (L:Lay) (s:StageV) (r:Rct):List Int:=(srcs s).flatMap (L.srcDeps s r)
def Lay.own (L:Lay) (n i:Int):List Int:=if (L.st n).kind=5 then (if 0<i%L.nx n then [L.first n+i-1] else [])++(if L.nx n<=i then [L.first n+i-L.nx n] else []) else []
def Lay.task (L:Lay) (n part:Int) (r:Rct) (deps:List Int):TaskV:=
  ⟨n,part,r.x0,r.y0,r.x1,r.y1,canonV deps,if part=2 then 1 else r.y1-r.y0,bytV (L.st n) (shpAt L.sh (L.st n).a).h r⟩
def Lay.part (L:Lay) (n:Int):Int:=if (L.st n).kind=4 then 1 else 0
def Lay.tile (L:Lay) (n i:Int):Rct:=tileV (L.cut n).w (L.cut n).h L.tw L.th i
def Lay.tileT (L:Lay) (n i:Int):TaskV:=L.task n (L.part n) (L.tile n i) (L.needs (L.st n) (L.tile n i)++L.own n i)
def Lay.mergeT (L:Lay) (n:Int):TaskV:=L.task n 2 ⟨0,0,(L.st n).bins,1⟩ ((uptoV (L.nx n*L.ny n).toNat).map (L.first n+·))
def Lay.tasks (L:Lay) (n:Int):List TaskV:=(uptoV (L.nx n*L.ny n).toNat).map (L.tileT n)++(if (L.st n).kind=4 then [L.mergeT n] else [])
def Lay.all (L:Lay):List TaskV:=L.od.flatMap L.tasks
def layV (j:JobV) (tw th:Int):Lay:=⟨j.inputs.length,j.stages,(shpV j).1,(ordV j).1,tw,th⟩
def tileP (tw th:Int):Prop:=(1<=tw/\tw<=64)/\1<=th/\th<=64
instance (tw th:Int):Decidable (tileP tw th):=by unfold tileP;infer_instance
def lowC (j:JobV) (tw th:Int):Int:=if (shpV j).2.2=0 then (if tileP tw th then (if (layV j tw th).total<=4096 then 0 else 13) else 2) else (shpV j).2.2
def lowV (j:JobV) (tw th:Int):List TaskV:=if lowC j tw th=0 then (layV j tw th).all else []
def Lay.cells (L:Lay):Int:=(L.sh.map fun m=>m.w*m.h).sum+(L.od.map fun n=>if (L.st n).kind=4 then (L.st n).bins*(L.cnt n-1) else 0).sum
def celV (j:JobV) (tw th:Int):Int:=if lowC j tw th=0 then (layV j tw th).cells else 0
theorem ceil_bd {a b:Int} (ha:1<=a/\a<=128) (hb:1<=b):1<=ceilV a b/\ceilV a b<=128:=by
 unfold ceilV
 rw [if_pos ⟨om,hb⟩]
 have h1:=Int.mul_ediv_add_emod a b
 have h2:=Int.emod_nonneg a (by omega:b≠0)
 have h3:=Int.emod_lt_of_pos a (by omega:0<b)
 have h4:a/b<=a:=Int.ediv_le_self _ om
 have h5:0<=a/b:=Int.ediv_nonneg om om
 split
 ·have:a/b≠0:=fun h=>by rw [h,Int.mul_zero] at h1;omega
  omega
 ·have h6:a/b<128:=by
   by_cases h:a/b=128
   ·have hb1:b=1:=by
     by_cases hb1:b=1
     ·exact hb1
     ·have:=Int.mul_le_mul_of_nonneg_right (show (2:Int)<=b by omega) h5;omega
    subst hb1;simp at*
   ·omega
  omega
theorem cols_bd {w h tw th:Int} (hf:fineP w h tw th):(1<=colsN w h tw th/\colsN w h tw th<=128)/\1<=rowsN w h tw th/\rowsN w h tw th<=128:=by
  unfold colsN rowsN
  rw [if_pos hf,if_pos hf]
  exact ⟨ceil_bd hf.1 hf.2.2.1.1,ceil_bd hf.2.1 hf.2.2.2.1⟩
theorem cols_no {w h tw th:Int} (hf:¬fineP w h tw th):colsN w h tw th=0/\rowsN w h tw th=0:=by
  unfold colsN rowsN
  rw [if_neg hf,if_neg hf];exact ⟨rfl,rfl⟩
theorem ceil_lt {a b i:Int} (ha:0<=a) (hb:1<=b) (hi:0<=i) (h:i<ceilV a b):i*b<a:=by
  unfold ceilV at h
  rw [if_pos ⟨ha,hb⟩] at h
  have h1:=Int.mul_ediv_add_emod a b
  have h2:=Int.emod_nonneg a (by omega:b≠0)
  split at h
  · have:=Int.mul_le_mul_of_nonneg_right (show i+1<=a/b by omega) (show 0<=b by omega)
    rw [Int.add_mul,Int.one_mul,Int.mul_comm (a/b) b] at this;omega
  · have:=Int.mul_le_mul_of_nonneg_right (show i<=a/b by omega) (show 0<=b by omega)
    rw [Int.mul_comm (a/b) b] at this;omega
theorem tile_ix {i nx ny:Int} (hn:1<=nx) (hi:0<=i) (h:i<nx*ny):(0<=i%nx/\i%nx<nx)/\0<=i/nx/\i/nx<ny/\i=i/nx*nx+i%nx:=by
  have h1:=Int.mul_ediv_add_emod i nx
  have h2:=Int.emod_nonneg i (by omega:nx≠0)
  refine ⟨⟨h2,(Int.emod_lt_of_pos i (by omega:0<nx))⟩,Int.ediv_nonneg hi (by omega),?_,by rw [Int.mul_comm];omega⟩
  exact Int.ediv_lt_of_lt_mul (by omega) (by rw [Int.mul_comm];exact h)
theorem tile_in {w h tw th i:Int} (hf:fineP w h tw th) (hi:0<=i) (hl:i<colsN w h tw th*rowsN w h tw th):inP (tileV w h tw th i)/\(tileV w h tw th i).x1<=w/\(tileV w h tw th i).y1<=h/\(tileV w h tw th i).x1-(tileV w h tw th i).x0<=64/\(tileV w h tw th i).y1-(tileV w h tw th i).y0<=64:=by
 have hb:=cols_bd hf
 obtain ⟨⟨a1,a2⟩,a3,a4,a5⟩:=tile_ix hb.1.1 hi hl
 obtain ⟨⟨f1,f2⟩,⟨f3,f4⟩,⟨f5,f6⟩,f7,f8⟩:=hf
 have hf:fineP w h tw th:=⟨⟨f1,f2⟩,⟨f3,f4⟩,⟨f5,f6⟩,f7,f8⟩
 have hx:i%colsN w h tw th*tw<w:=ceil_lt om f5 a1 ((show colsN w h tw th=ceilV w tw from by unfold colsN;rw [if_pos hf])▸a2)
 have hy:i/colsN w h tw th*th<h:=ceil_lt om f7 a3 ((show rowsN w h tw th=ceilV h th from by unfold rowsN;rw [if_pos hf])▸a4)
 have hx0:0<=i%colsN w h tw th*tw:=Int.mul_nonneg a1 om
 have hy0:0<=i/colsN w h tw th*th:=Int.mul_nonneg a3 om
 unfold inP tileV
 dsimp only
 omega
theorem mod_emod {i n:Int} (hn:0<n):(if i.tmod n<0 then i.tmod n+n else i.tmod n)=i%n:=by
  have h1:=Int.tmod_lt_of_pos i hn
  have h2:=Int.lt_tmod_of_pos i hn
  have e:i%n=i.tmod n%n:=by
    have h:=Int.tmod_add_mul_tdiv i n
    calc i%n=(i.tmod n+n*i.tdiv n)%n:=by rw [h]
      _=i.tmod n%n:=by rw [Int.add_mul_emod_self_left]
  rw [e]
  split
  · rw [<-Int.add_emod_right,Int.emod_eq_of_lt (by omega) (by omega)]
  · rw [Int.emod_eq_of_lt (by omega) (by omega)]
theorem idx_bd {i n p c:Int} (h:idxV i n p=some c):0<=c/\c<n:=by
  unfold idxV at h
  split at h
  · rename_i hn
    have h1:=Int.emod_nonneg i (by omega:n≠0)
    have h2:=Int.emod_lt_of_pos i (by omega:0<n)
    have h3:=Int.emod_nonneg i (by omega:2*n≠0)
    have h4:=Int.emod_lt_of_pos i (by omega:0<2*n)
    repeat' split at h
    all_goals first
      |(simp only [Option.some.injEq] at h;omega)
      |cases h
  · cases h
theorem win_bd {kd k size:Int} {t:List TapV} (hs:¬(kd=1\/kd=2)\/(1<=size/\size<=9)) (ht:kd=3->t.all tapP=true) (hk:0<=k/\k<=1000):(-200<=winF kd k size t/\winF kd k size t<=1000)/\0<=winC kd k size t/\winC kd k size t<=9:=by
  unfold winF winC
  split
  · rename_i h;omega
  · split
    · rename_i h3
      have h:=ht h3
      cases hx:t[k.toNat]? with
      |none=>simp
      |some x=>
        have:=List.all_eq_true.1 h x (List.mem_of_getElem? hx)
        unfold tapP at this
        have:=of_decide_eq_true this
        dsimp only;omega
    · omega
def MkB (N:Nat) (ks:List Bool) (f:Int->Bool):Prop:=ks.length=N/\∀m:Nat,m<N->ks[m]?=some (f m)
theorem MkB.zero {N:Nat} {f:Int->Bool} (hf:∀m,f m=false):MkB N (List.replicate N false) f:=by
  refine ⟨by simp,fun m hm=>?_⟩
  rw [List.getElem?_replicate,if_pos hm,hf]
theorem MkB.at {N:Nat} {ks:List Bool} {f:Int->Bool} {m:Nat} {x:Bool} (h:MkB N ks f) (hx:ks[m]?=some x):x=f m:=by
  have hm:=(List.getElem?_eq_some_iff.1 hx).1
  have:=h.2 m (by rw [<-h.1];exact hm)
  rw [hx] at this;exact Option.some.inj this
theorem MkB.congr {N:Nat} {ks:List Bool} {f g:Int->Bool} (h:MkB N ks f) (e:∀m:Int,f m=g m):MkB N ks g:=⟨h.1,fun m hm=>by rw [h.2 m hm,e]⟩
theorem MkB.set {N:Nat} {ks:List Bool} {f g:Int->Bool} {c:Int} (h:MkB N ks f) (hc:0<=c/\c<N) (e:∀m:Int,g m=(f m||decide (c=m))):MkB N (ks.set c.toNat true) g:=by
  refine ⟨by rw [List.length_set];exact h.1,fun m hm=>?_⟩
  rw [e,List.getElem?_set]
  split
  · rename_i hcm
    rw [if_pos (by rw [h.1];omega),decide_eq_true (show c=(m:Int) by omega),Bool.or_true]
  · rw [h.2 m hm,decide_eq_false (show ¬c=(m:Int) by omega),Bool.or_false]
theorem any_range_succ (k:Nat) (f:Nat->Bool):(List.range (k+1)).any f=((List.range k).any f||f k):=by rw [List.range_succ,List.any_append];simp
theorem MkB.one {N:Nat} {ks:List Bool} {A:Int->Bool} {s:StageV} {n:Int} {k:Nat} {F:Int} {c:Int} (h:MkB N ks (fun m=>A m||(List.range k).any fun j=>decide (idxV (F+j) n (polV s)=some m))) (he:idxV (F+k) n (polV s)=some c) (hc:0<=c/\c<N):
    MkB N (ks.set c.toNat true) (fun m=>A m||(List.range (k+1)).any fun j=>decide (idxV (F+j) n (polV s)=some m)):=by
  refine h.set hc (fun m=>?_)
  rw [any_range_succ,he,<-Bool.or_assoc]
  congr 1
  exact decide_eq_decide.2 ⟨fun h=>Option.some.inj h,fun h=>by rw [h]⟩
theorem MkB.none {N:Nat} {ks:List Bool} {A:Int->Bool} {s:StageV} {n:Int} {k:Nat} {F:Int} (h:MkB N ks (fun m=>A m||(List.range k).any fun j=>decide (idxV (F+j) n (polV s)=some m))) (he:idxV (F+k) n (polV s)=none):
    MkB N ks (fun m=>A m||(List.range (k+1)).any fun j=>decide (idxV (F+j) n (polV s)=some m)):=by
  refine h.congr (fun m=>?_)
  rw [any_range_succ,he];simp
theorem hit_bd {s:StageV} {n k size m:Int} {t:List TapV} (h:hitB s n k size t m=true):0<=m/\m<n:=by
  unfold hitB at h
  obtain ⟨j,_,hj⟩:=List.any_eq_true.1 h
  exact idx_bd (of_decide_eq_true hj)
theorem need_bd {s:StageV} {n a b size m:Int} {t:List TapV} (h:needB s n a b size t m=true):0<=m/\m<n:=by
  unfold needB at h
  obtain ⟨j,_,hj⟩:=List.any_eq_true.1 h
  exact hit_bd hj
theorem upto_cut {n:Nat} (f:Int->Bool):∀k:Nat,(∀m:Int,(n:Int)<=m->f m=false)->(uptoV (n+k)).filter f=(uptoV n).filter f
  |0,_=>rfl
  |k+1,h=>by rw [show n+(k+1)=n+k+1 by omega,upto_snoc_filter,upto_cut f k h,h _ (by omega)];simp
theorem need_cut {s:StageV} {n a b size:Int} {t:List TapV} (hn:1<=n/\n<=128):(uptoV 128).filter (needB s n a b size t)=(uptoV n.toNat).filter (needB s n a b size t):=by
  have h:=upto_cut (n:=n.toNat) (needB s n a b size t) (128-n.toNat) (fun m hm=>by
    rw [<-Bool.not_eq_true];intro h;have:=need_bd h;omega)
  rw [show n.toNat+(128-n.toNat)=128 by omega] at h
  exact h
theorem need_len {s:StageV} {n a b size:Int} {t:List TapV}:(needV s n a b size t).length<=128:=by
  unfold needV
  split
  · rename_i h
    exact Nat.le_trans (List.length_filter_le _ _) (by rw [upto_len];have:=h.1.1;omega)
  · simp
theorem szOK_cols (s:StageV):szOK s (if s.kind=2 then s.row.length else s.kW) s.x:=by
  intro h
  refine ⟨?_,fun h3=>(h.2.2.2 h3).1⟩
  by_cases h1:s.kind=1
  · have:=(h.2.1 h1).1;unfold kerP at this;rw [if_neg (by omega)];omega
  · by_cases h2:s.kind=2
    · have:=(h.2.2.1 h2).1;unfold kerP at this;rw [if_pos h2];omega
    · omega
theorem szOK_rows (s:StageV):szOK s (if s.kind=2 then s.col.length else s.kH) s.y:=by
  intro h
  refine ⟨?_,fun h3=>(h.2.2.2 h3).2⟩
  by_cases h1:s.kind=1
  · have:=(h.2.1 h1).2;unfold kerP at this;rw [if_neg (by omega)];omega
  · by_cases h2:s.kind=2
    · have:=(h.2.2.1 h2).2;unfold kerP at this;rw [if_pos h2];omega
    · omega
theorem hits_succ {s:StageV} {n a size c:Int} {t:List TapV} {i:Nat} {m:Int} {k:Nat} (hc:c=a+i) (hk:(winC s.kind c size t).toNat=k):
    hitsV s n a size t (i+1) m=(hitsV s n a size t i m||(List.range k).any fun j=>decide (idxV (winF s.kind c size t+j) n (polV s)=some m)):=by
  subst hc;subst hk
  unfold hitsV
  rw [any_range_succ];rfl
theorem any_of_at {α:Type} {p:α->Bool} {l:List α} {i:Nat} {x:α} (hx:l[i]?=some x) (h:p x=true):l.any p=true:=List.any_eq_true.2 ⟨x,List.mem_of_getElem? hx,h⟩
theorem any_take_no {α:Type} {p:α->Bool} {l:List α} {i:Nat} {x:α} (h:(l.take i).any p=false) (hx:l[i]?=some x) (hp:p x=false):(l.take (i+1)).any p=false:=by
  rw [List.take_add_one,hx,Option.toList_some,List.any_append,h];simp [hp]
theorem til_zero {w h tw th:Int} (hf:¬fineP w h tw th):tilN w h tw th=0:=by unfold tilN;rw [(cols_no hf).1];simp
theorem tiles_zero {s:StageV} {w h tw th:Int} {r:Rct} (hf:¬fineP w h tw th):tilesV s w h tw th r=[]:=by unfold tilesV;rw [til_zero hf];rfl
theorem cols_pos {w h tw th:Int} (h0:¬colsN w h tw th=0):fineP w h tw th:=by
  by_cases hf:fineP w h tw th
  · exact hf
  · exact absurd (cols_no hf).1 h0
theorem grid_ix {nx i j:Int} (hj:0<=j/\j<nx):(i*nx+j)%nx=j/\(i*nx+j)/nx=i:=by
  have hx:0<nx:=by omega
  refine ⟨?_,?_⟩
  · rw [Int.add_comm,Int.add_mul_emod_self_right,Int.emod_eq_of_lt hj.1 hj.2]
  · rw [Int.add_comm,Int.add_mul_ediv_right _ _ (by omega),Int.ediv_eq_zero_of_lt hj.1 hj.2,Int.zero_add]
theorem acc0 {s:StageV} (h:fieldsP s) (h1:¬s.kind=1) (h2:¬s.kind=2) (h3:¬s.kind=3):accV s:=⟨h,fun e=>absurd e h1,fun e=>absurd e h2,fun e=>absurd e h3⟩
theorem acc1 {s:StageV} (h:fieldsP s) (h1:s.kind=1):accV s↔kerP s.kW/\kerP s.kH:=⟨fun a=>a.2.1 h1,fun b=>⟨h,fun _=>b,fun e=>by omega,fun e=>by omega⟩⟩
theorem acc2 {s:StageV} (h:fieldsP s) (h1:s.kind=2):accV s↔kerP s.row.length/\kerP s.col.length:=⟨fun a=>a.2.2.1 h1,fun b=>⟨h,fun e=>by omega,fun _=>b,fun e=>by omega⟩⟩
theorem acc3 {s:StageV} (h:fieldsP s) (h1:s.kind=3):accV s↔s.x.all tapP=true/\s.y.all tapP=true:=⟨fun a=>a.2.2.2 h1,fun b=>⟨h,fun e=>by omega,fun e=>by omega,fun _=>b⟩⟩
theorem acc_kind {s:StageV} (h:accV s):1<=s.kind/\s.kind<=6:=by
  have h1:=h.1
  unfold fieldsP at h1
  omega
theorem p1_ceil (a:Int) (b:Int) (hab:a<=4611686018427387904/\b<=4611686018427387904) (hS:Sat W w (H::F)):
  Ro prog 132 #[I a,I b] (I (ceilV a b)) W w (H::F):=by
 refine callsA 22 func132 rfl<|sR<|pu1<|zQ<|pu3<|sD 8 (a<0) (fun a0=>?_) (fun a0=>?_)
 ·refine pu3<|zC<|pu1<|zR<|retT [I 0] ?_
  have hk:ceilV a b=0:=by unfold ceilV;rw [if_neg om]
  exact ⟨by rw [hk];rfl,hS⟩
 refine pu3<|nT<|cD (b<1) (fun b0=>?_) (fun b0=>?_)
 ·refine sR<|pu1<|zR<|retT [I 0] ?_
  have hk:ceilV a b=0:=by unfold ceilV;rw [if_neg om]
  exact ⟨by rw [hk];rfl,hS⟩
 refine kT<|seqE ?_
 have ht:a.tdiv b=a/b:=Int.tdiv_eq_ediv_of_nonneg om;have hm:a.tmod b=a%b:=Int.tmod_eq_emod_of_nonneg om;have hd:=tdiv_bd (a:=a) (b:=b) (A:=a) om om;have hmb:=Int.emod_nonneg a (by omega:b≠0);have hmc:=Int.emod_lt_of_pos a (by omega:0<b)
 refine rE<|pu2<|sQuo a b<|pu1<|zQ<|pu2<|sRem a b<|pu1<|nT<|cN (a.tmod b) 0 (fun c0=>?_) (fun c0=>?_)
 ·refine kS<|pu2<|zE<|retT [I (a.tdiv b)] ?_
  have hk:ceilV a b=(a.tdiv b):=by unfold ceilV;rw [if_pos om,if_pos (by rw [<-hm];omega),<-ht]
  exact ⟨by rw [hk];rfl,hS⟩
 refine rE<|pu1<|sAdd (a.tdiv b) 1<|pu1<|zS<|pu2<|zE<|retT [I ((a.tdiv b)+1)] ?_
 have hk:ceilV a b=((a.tdiv b)+1):=by unfold ceilV;rw [if_pos om,if_neg (by rw [<-hm];omega),<-ht]
 exact ⟨by rw [hk];rfl,hS⟩
def alnOK (n k l:Int):Bool:=if 0<=n/\1<=k then mulOK (ceilV n k) k l else false
def alnX (n k l:Int):Int:=if 0<=n/\1<=k then mulV (ceilV n k) k l else 0
theorem aln_ok {n l:Int} (h0:0<=n) (h:n+15<=l):alnX n 16 l=alnV n:=by
  have e:ceilV n 16*16=alnV n:=by
    unfold ceilV alnV
    rw [if_pos ⟨h0,by decide⟩]
    split<;>omega
  unfold alnX mulV mulOK
  rw [if_pos ⟨h0,by decide⟩,if_pos,e]
  refine decide_eq_true ⟨?_,by decide,by omega,?_⟩
  · unfold ceilV;rw [if_pos ⟨h0,by decide⟩];split<;>omega
  · rw [e];unfold alnV;omega
theorem p1_align (n:Int) (k:Int) (l:Int) (hab:n<=4611686018427387904/\k<=4611686018427387904/\l<=4611686018427387904) (hS:Sat W w (H::F)):
  Ro prog 111 #[I n,I k,I l] (.tuple #[I (alnX n k l), .bool (alnOK n k l)]) W w (H::F):=by
 refine callsA 22 func111 rfl<|sR<|pu2<|zQ<|pu3<|sD 10 (n<0) (fun a0=>?_) (fun a0=>?_)
 ·refine pu3<|zC<|pu2<|zR<|retT [I 0, .bool false] ?_
  have h1:alnOK n k l=false:=by unfold alnOK;rw [if_neg om]
  have h2:alnX n k l=0:=by unfold alnX;rw [if_neg om]
  exact ⟨by rw [h1,h2];rfl,hS⟩
 refine pu3<|nT<|cD (k<1) (fun b0=>?_) (fun b0=>?_)
 ·refine sR<|pu2<|zR<|retT [I 0, .bool false] ?_
  have h1:alnOK n k l=false:=by unfold alnOK;rw [if_neg om]
  have h2:alnX n k l=0:=by unfold alnX;rw [if_neg om]
  exact ⟨by rw [h1,h2];rfl,hS⟩
 refine kS<|pu2<|cR call132 (p1_ceil n k (od) hS.flat) fun _ c0=>pu2<|cR call141 (p1_mul (ceilV n k) k l (od) c0.flat) fun _ d0=>pu4<|zE<|retT [I (mulV (ceilV n k) k l), .bool (mulOK (ceilV n k) k l)] ?_
 have h1:alnOK n k l=mulOK (ceilV n k) k l:=by unfold alnOK;rw [if_pos om]
 have h2:alnX n k l=mulV (ceilV n k) k l:=by unfold alnX;rw [if_pos om]
 exact ⟨by rw [h1,h2];rfl,d0⟩
theorem p5_count (w0:Int) (h0:Int) (tw:Int) (th:Int) (hS:Sat W w (H::F)):
  Ro prog 88 #[I w0,I h0,I tw,I th] (.tuple #[I (colsN w0 h0 tw th),I (rowsN w0 h0 tw th)]) W w (H::F):=by
 refine callsA 44 func88 rfl<|sR<|pu2<|zQ<|pu3<|sD 12 (w0<1) (fun a0=>?_) (fun a0=>?_)
 ·refine pu11<|zC<|pu2<|zR<|retT [I 0,I 0] ?_
  have hk:=cols_no (w:=w0) (h:=h0) (tw:=tw) (th:=th) (by first|assumption|(unfold fineP;omega))
  exact ⟨by rw [hk.1,hk.2];rfl,hS⟩
 refine pu4<|sD 16 (w0>128) (fun b0=>?_) (fun b0=>?_)
 ·refine pu7<|zC<|pu2<|zR<|retT [I 0,I 0] ?_
  have hk:=cols_no (w:=w0) (h:=h0) (tw:=tw) (th:=th) (by first|assumption|(unfold fineP;omega))
  exact ⟨by rw [hk.1,hk.2];rfl,hS⟩
 refine pu4<|sD 20 (h0<1) (fun c0=>?_) (fun c0=>?_)
 ·refine pu3<|zC<|pu2<|zR<|retT [I 0,I 0] ?_
  have hk:=cols_no (w:=w0) (h:=h0) (tw:=tw) (th:=th) (by first|assumption|(unfold fineP;omega))
  exact ⟨by rw [hk.1,hk.2];rfl,hS⟩
 refine pu3<|nT<|cD (h0>128) (fun d0=>?_) (fun d0=>?_)
 ·refine sR<|pu2<|zR<|retT [I 0,I 0] ?_
  have hk:=cols_no (w:=w0) (h:=h0) (tw:=tw) (th:=th) (by first|assumption|(unfold fineP;omega))
  exact ⟨by rw [hk.1,hk.2];rfl,hS⟩
 refine kT<|seqE<|sR<|pu3<|sD 26 (tw<1) (fun e0=>?_) (fun e0=>?_)
 ·refine pu11<|zC<|pu2<|zR<|retT [I 0,I 0] ?_
  have hk:=cols_no (w:=w0) (h:=h0) (tw:=tw) (th:=th) (by first|assumption|(unfold fineP;omega))
  exact ⟨by rw [hk.1,hk.2];rfl,hS⟩
 refine pu4<|sD 30 (tw>64) (fun f0=>?_) (fun f0=>?_)
 ·refine pu7<|zC<|pu2<|zR<|retT [I 0,I 0] ?_
  have hk:=cols_no (w:=w0) (h:=h0) (tw:=tw) (th:=th) (by first|assumption|(unfold fineP;omega))
  exact ⟨by rw [hk.1,hk.2];rfl,hS⟩
 refine pu4<|sD 34 (th<1) (fun g0=>?_) (fun g0=>?_)
 ·refine pu3<|zC<|pu2<|zR<|retT [I 0,I 0] ?_
  have hk:=cols_no (w:=w0) (h:=h0) (tw:=tw) (th:=th) (by first|assumption|(unfold fineP;omega))
  exact ⟨by rw [hk.1,hk.2];rfl,hS⟩
 refine pu3<|nT<|cD (th>64) (fun i0=>?_) (fun i0=>?_)
 ·refine sR<|pu2<|zR<|retT [I 0,I 0] ?_
  have hk:=cols_no (w:=w0) (h:=h0) (tw:=tw) (th:=th) (by first|assumption|(unfold fineP;omega))
  exact ⟨by rw [hk.1,hk.2];rfl,hS⟩
 refine kS<|pu2<|cR call132 (p1_ceil w0 tw (od) hS.flat) fun _ j0=>pu2<|cR call132 (p1_ceil h0 th (od) j0.flat) fun _ k0=>pu2<|zE<|retT [I (ceilV w0 tw),I (ceilV h0 th)] ?_
 have hf:fineP w0 h0 tw th:=by first|assumption|(unfold fineP;omega)
 have h1:colsN w0 h0 tw th=ceilV w0 tw:=by (unfold colsN;rw [if_pos hf])
 have h2:rowsN w0 h0 tw th=ceilV h0 th:=by (unfold rowsN;rw [if_pos hf])
 exact ⟨by rw [h1,h2];rfl,k0⟩
def cooP (n:Int):Prop:=-1048576<=n/\n<=1048576
instance (n:Int):Decidable (cooP n):=by unfold cooP;infer_instance
def rvP (r:Rct):Prop:=(r.x0=0/\r.y0=0/\r.x1=0/\r.y1=0)\/(cooP r.x0/\cooP r.y0/\cooP r.x1/\cooP r.y1/\r.x0<r.x1/\r.y0<r.y1)
instance (r:Rct):Decidable (rvP r):=by unfold rvP;infer_instance
theorem eqvn44 (w:World) (a0 a1 a2 a3 b0 b1 b2 b3:Int):∀x y,((do eqGuard .neq 44 x y (.agg #[.int .i64 a0, .int .i64 a1, .int .i64 a2, .int .i64 a3]) (.agg #[.int .i64 b0, .int .i64 b1, .int .i64 b2, .int .i64 b3]);binOp .neq 44 (.agg #[.int .i64 a0, .int .i64 a1, .int .i64 a2, .int .i64 a3]) (.agg #[.int .i64 b0, .int .i64 b1, .int .i64 b2, .int .i64 b3])):Sem Value).run prog w= .ok (.bool (!((a0==b0)&&(a1==b1)&&(a2==b2)&&(a3==b3)))) w:=by
  intro x y
  simp [go_sem,run_eqGuard_agg,run_neq_struct,run_equalIn_agg]
  by_cases h0:a0=b0<;>by_cases h1:a1=b1<;>by_cases h2:a2=b2<;>by_cases h3:a3=b3<;>simp [*]
theorem p5_tile (w0:Int) (h0:Int) (tw:Int) (th:Int) (i:Int) (hf:fineP w0 h0 tw th) (hi:0<=i/\i<(colsN w0 h0 tw th)*(rowsN w0 h0 tw th)) (hS:Sat W w (H::F)):
  Ro prog 89 #[I w0,I h0,I tw,I th,I i] (.tuple #[.agg #[I ((tileV w0 h0 tw th i).x0),I ((tileV w0 h0 tw th i).y0),I ((tileV w0 h0 tw th i).x1),I ((tileV w0 h0 tw th i).y1)], .bool true]) W w (H::F):=by
 have hb:=cols_bd hf;have hq:=tile_ix hb.1.1 hi.1 hi.2;have hp:=mul_bd (a:=(colsN w0 h0 tw th)) (b:=(rowsN w0 h0 tw th)) (A:=128) (B:=128) om om;have e1:(i.tmod (colsN w0 h0 tw th))=i%(colsN w0 h0 tw th):=Int.tmod_eq_emod_of_nonneg hi.1;have e2:(i.tdiv (colsN w0 h0 tw th))=i/(colsN w0 h0 tw th):=Int.tdiv_eq_ediv_of_nonneg hi.1;have hf0:=hf;unfold fineP at hf0;have hm1:=mul_bd (a:=i.tmod (colsN w0 h0 tw th)) (b:=tw) (A:=128) (B:=64) om om;have hm2:=mul_bd (a:=i.tdiv (colsN w0 h0 tw th)) (b:=th) (A:=128) (B:=64) om om
 refine callsA 57 func89 rfl<|sR<|sAlloc hS zeroValue44 fun _ _ e0=>pu1<|zS<|pu4<|cR call88 (p5_count w0 h0 tw th e0.flat) fun _ a0=>pu5<|zQ<|pu3<|sD 26 (i<0) (fun f0=>?_) (fun f0=>?_)
 ·refine pu6<|zC<|pu1<|sT a0 0 0 (.agg #[I 0,I 0,I 0,I 0]) [I 0,I 0,I 0,I 0] #[I 0,I 0,I 0,I 0] sizeOf44 fun _ b0=>pu1<|zR<|retN (vs:=[.agg #[I 0,I 0,I 0,I 0], .bool false]) rfl (.cons (.cell _ _ _ _ kr (lvA b0 0 0 [I 0,I 0,I 0,I 0] (isAgg44 _) (sizeOf44 _) rfl rfl rfl)) (.cons (.tmp _ _ kr) .nil)) ?_
  have o0:=(b0.dropAt 0 rfl)
  first|omega|(exfalso;omega)
 refine pu3<|gY<|sMul (colsN w0 h0 tw th) (rowsN w0 h0 tw th)<|pu2<|nT<|cD (i>=((colsN w0 h0 tw th)*(rowsN w0 h0 tw th))) (fun g0=>?_) (fun g0=>?_)
 ·refine sR<|pu1<|sT a0 0 0 (.agg #[I 0,I 0,I 0,I 0]) [I 0,I 0,I 0,I 0] #[I 0,I 0,I 0,I 0] sizeOf44 fun _ c0=>pu1<|zR<|retN (vs:=[.agg #[I 0,I 0,I 0,I 0], .bool false]) rfl (.cons (.cell _ _ _ _ kr (lvA c0 0 0 [I 0,I 0,I 0,I 0] (isAgg44 _) (sizeOf44 _) rfl rfl rfl)) (.cons (.tmp _ _ kr) .nil)) ?_
  have q0:=(c0.dropAt 0 rfl)
  first|omega|(exfalso;omega)
 refine kT<|seqE<|drawE [] [] [(true,[0,1]),(true,[2]),(true,[3]),(true,[4]),(true,[5,6]),(true,[7]),(true,[8]),(true,[9]),(true,[10,11])] rfl kr trivial ?_
 have i0:=a0.drew
 refine wU [0,1]<|wRem i (colsN w0 h0 tw th)<|wU [3]<|wMul (i.tmod (colsN w0 h0 tw th)) tw<|wU [5,6]<|wQuo i (colsN w0 h0 tw th)<|wU [8]<|wMul (i.tdiv (colsN w0 h0 tw th)) th<|wU [10,11]<|wN<|tN<|sR<|pu4<|sAdd ((i.tmod (colsN w0 h0 tw th))*tw) tw<|pu1<|stepY (I (min (((i.tmod (colsN w0 h0 tw th))*tw)+tw) w0)) rfl rfl (Y_min2 (((i.tmod (colsN w0 h0 tw th))*tw)+tw) w0 rfl rfl kr kr)<|pu2<|sAdd ((i.tdiv (colsN w0 h0 tw th))*th) th<|pu1<|stepY (I (min (((i.tdiv (colsN w0 h0 tw th))*th)+th) h0)) rfl rfl (Y_min2 (((i.tdiv (colsN w0 h0 tw th))*th)+th) h0 rfl rfl kr kr)<|pu1 ?_
 refine sT i0 0 0 (.agg #[I ((i.tmod (colsN w0 h0 tw th))*tw),I ((i.tdiv (colsN w0 h0 tw th))*th),I (min (((i.tmod (colsN w0 h0 tw th))*tw)+tw) w0),I (min (((i.tdiv (colsN w0 h0 tw th))*th)+th) h0)]) [I ((i.tmod (colsN w0 h0 tw th))*tw),I ((i.tdiv (colsN w0 h0 tw th))*th),I (min (((i.tmod (colsN w0 h0 tw th))*tw)+tw) w0),I (min (((i.tdiv (colsN w0 h0 tw th))*th)+th) h0)] #[I ((i.tmod (colsN w0 h0 tw th))*tw),I ((i.tdiv (colsN w0 h0 tw th))*th),I (min (((i.tmod (colsN w0 h0 tw th))*tw)+tw) w0),I (min (((i.tdiv (colsN w0 h0 tw th))*th)+th) h0)] sizeOf44 fun _ d0=>?_
 exact pu1<|zE<|retN (vs:=[.agg #[I ((i.tmod (colsN w0 h0 tw th))*tw),I ((i.tdiv (colsN w0 h0 tw th))*th),I (min (((i.tmod (colsN w0 h0 tw th))*tw)+tw) w0),I (min (((i.tdiv (colsN w0 h0 tw th))*th)+th) h0)], .bool true]) rfl (.cons (.cell _ _ _ _ kr (lvA d0 0 0 [I ((i.tmod (colsN w0 h0 tw th))*tw),I ((i.tdiv (colsN w0 h0 tw th))*th),I (min (((i.tmod (colsN w0 h0 tw th))*tw)+tw) w0),I (min (((i.tdiv (colsN w0 h0 tw th))*th)+th) h0)] (isAgg44 _) (sizeOf44 _) rfl rfl rfl)) (.cons (.tmp _ _ kr) .nil))<|⟨by unfold tileV;rw [<-e1,<-e2];rfl,(d0.dropAt 0 rfl)⟩
theorem p3_mod (i:Int) (n:Int) (hn:1<=n/\n<=4611686018427387904) (hS:Sat W w (H::F)):
  Ro prog 206 #[I i,I n] (I (i%n)) W w (H::F):=by
 have hm1:=Int.tmod_lt_of_pos i (by omega:0<n);have hm2:=Int.lt_tmod_of_pos i (by omega:0<n)
 refine callsA 15 func206 rfl<|sR<|pu1<|zS<|pu2<|sRem i n<|pu1<|zQ<|pu2<|nT<|cD ((i.tmod n)<0) (fun a0=>?_) (fun a0=>?_)
 rotate_left
 ·refine kS<|pu2<|zE<|retT [I (i.tmod n)] ?_
  have hk:=mod_emod (i:=i) (n:=n) om
  rw [if_neg om] at hk
  exact ⟨by rw [<-hk];rfl,hS⟩
 refine rE<|pu2<|sAdd (i.tmod n) n<|pu1<|zS<|pu2<|zE<|retT [I ((i.tmod n)+n)] ?_
 have hk:=mod_emod (i:=i) (n:=n) om
 rw [if_pos om] at hk
 exact ⟨by rw [<-hk];rfl,hS⟩
theorem p3_index (i:Int) (n:Int) (p:Int) (hS:Sat W w (H::F)):
  Ro prog 175 #[I i,I n,I p] (.tuple #[I ((idxV i n p).getD 0), .bool ((idxV i n p).isSome)]) W w (H::F):=by
 refine callsA 53 func175 rfl<|sR<|pu2<|zQ<|pu3<|sD 11 (n<1) (fun b0=>?_) (fun b0=>?_)
 ·refine pu3<|zC<|pu2<|zR<|retT [I 0, .bool false] ?_
  have hk:idxV i n p=none:=by unfold idxV;(repeat' split)<;>first|rfl|(exfalso;omega)
  exact ⟨by rw [hk];rfl,hS⟩
 refine pu3<|nT<|cD (n>128) (fun c0=>?_) (fun c0=>?_)
 ·refine sR<|pu2<|zR<|retT [I 0, .bool false] ?_
  have hk:idxV i n p=none:=by unfold idxV;(repeat' split)<;>first|rfl|(exfalso;omega)
  exact ⟨by rw [hk];rfl,hS⟩
 refine kT<|seqE<|sR<|pu1<|nT<|blockE<|sR<|pu2<|nT<|cE p 0 (fun d0=>?_) (fun d0=>?_)
 ·refine sR<|pu1<|stepY (I (max i 0)) rfl rfl (Y_max2 i 0 rfl rfl kr kr)<|pu1<|sSub n 1<|stepY (I (min (max i 0) (n-1))) rfl rfl (Y_min2 (max i 0) (n-1) rfl rfl kr kr)<|pu2<|zB<|retT [I (min (max i 0) (n-1)), .bool true] ?_
  have hk:idxV i n p=some (min (max i 0) (n-1)):=by unfold idxV;(repeat' split)<;>first|rfl|(exfalso;omega)|(congr 1;omega)
  exact ⟨by rw [hk];rfl,hS⟩
 refine sR<|pu2<|nT<|cE p 1 (fun e0=>?_) (fun e0=>?_)
 ·refine sR<|pu2<|sMul 2 n<|cR call206 (p3_mod i (2*n) (od) hS.flat) fun _ a0=>?_
  have hme:=Int.emod_nonneg i (by omega:((2*n):Int)≠0);have hmf:=Int.emod_lt_of_pos i (by omega:(0:Int)<(2*n))
  refine pu1<|zQ<|pu3<|nT<|cD ((i%(2*n))>=n) (fun f0=>?_) (fun f0=>?_)
  rotate_left
  ·refine kS<|pu3<|zB<|retT [I (i%(2*n)), .bool true] ?_
   have hk:idxV i n p=some (i%(2*n)):=by unfold idxV;(repeat' split)<;>first|rfl|(exfalso;omega)|(congr 1;omega)
   exact ⟨by rw [hk];rfl,a0⟩
  refine rE<|pu1<|sMul 2 n<|sSub (2*n) 1<|pu1<|sSub ((2*n)-1) (i%(2*n))<|pu1<|zS<|pu3<|zB<|retT [I (((2*n)-1)-(i%(2*n))), .bool true] ?_
  have hk:idxV i n p=some (((2*n)-1)-(i%(2*n))):=by unfold idxV;(repeat' split)<;>first|rfl|(exfalso;omega)|(congr 1;omega)
  exact ⟨by rw [hk];rfl,a0⟩
 refine sR<|pu2<|nT<|cE p 2 (fun g0=>?_) (fun g0=>?_)
 ·refine sR<|pu2<|cR call206 (p3_mod i n (od) hS.flat) fun _ h0=>?_
  have hme:=Int.emod_nonneg i (by omega:(n:Int)≠0);have hmf:=Int.emod_lt_of_pos i (by omega:(0:Int)<n)
  refine pu2<|zB<|retT [I (i%n), .bool true] ?_
  have hk:idxV i n p=some (i%n):=by unfold idxV;(repeat' split)<;>first|rfl|(exfalso;omega)|(congr 1;omega)
  exact ⟨by rw [hk];rfl,h0⟩
 refine sR<|pu2<|nT<|cE p 3 (fun i0=>?_) (fun i0=>?_)
 rotate_left
 ·refine skipE<|bN<|tN<|sR<|pu2<|zE<|retT [I 0, .bool false] ?_
  have hk:idxV i n p=none:=by unfold idxV;(repeat' split)<;>first|rfl|(exfalso;omega)
  exact ⟨by rw [hk];rfl,hS⟩
 refine sR<|pu3<|sD 47 (0<=i) (fun j0=>?_) (fun j0=>?_)
 rotate_left
 ·refine pu4<|nT<|cFf<|skipE<|bN<|tN<|sR<|pu2<|zE<|retT [I 0, .bool false] ?_
  have hk:idxV i n p=none:=by unfold idxV;(repeat' split)<;>first|rfl|(exfalso;omega)
  exact ⟨by rw [hk];rfl,hS⟩
 refine pu4<|nT<|cD (i<n) (fun k0=>?_) (fun k0=>?_)
 rotate_left
 ·refine skipE<|bN<|tN<|sR<|pu2<|zE<|retT [I 0, .bool false] ?_
  have hk:idxV i n p=none:=by unfold idxV;(repeat' split)<;>first|rfl|(exfalso;omega)
  exact ⟨by rw [hk];rfl,hS⟩
 refine sR<|pu3<|zB<|retT [I i, .bool true] ?_
 have hk:idxV i n p=some i:=by unfold idxV;(repeat' split)<;>first|rfl|(exfalso;omega)|(congr 1;omega)
 exact ⟨by rw [hk];rfl,hS⟩
theorem p9_side (x:Int) (hS:Sat W w (H::F)):
  Ro prog 204 #[I x] (.bool (decide ((1:Int)<=x/\x<=(9:Int)))) W w (H::F):=by
 refine callsA 9 func204 rfl<|sR<|pu1<|zS<|pu3<|sD 5 (1<=x) (fun a0=>?_) (fun a0=>?_)
 rotate_left
 ·exact pu4<|zE<|retT [.bool false]<|⟨rB bq,hS⟩
 exact pu4<|zE<|retT [.bool (decide ((x:Int)<=9))]<|⟨rB bq,hS⟩
theorem p16_taps (ax:Option Addr) (nx kx:Nat) (x:List Tap) (hx:RdT encTap 2 [H] ax nx kx x) (dx:∀z∈x,Tap.Ok [H] z) (hS:Sat W w (H::F)):
  Ro prog 205 #[.slice ax nx kx] (.bool ((x.map Tap.v).all tapP)) W w (H::F):=by
 have hl_x:=hx.le;have hn_x:=hx.len
 refine callsA 26 func205 rfl<|sR<|pu1<|zQ<|pu3<|nT<|blockE<|loopA (γ:=Nat) (fun i=>[(5, .slice ax nx kx),(6,I (nx:Int)),(7,I (i:Int))]) (fun i w=>Sat W w (H::F)/\i<=nx/\(((x.map Tap.v).take i).all tapP=true)) (fun i=>nx-i) 0 ⟨hS,om,by rfl⟩ ?_
 rintro i ρ _ ⟨d0,hi,hE⟩
 refine sR<|pu1<|nT<|seqE<|cD ((i:Int)<(nx:Int)) (fun e0=>?_) (fun e0=>?_)
 rotate_left
 ·exact exitE<|xB<|tN<|sR<|pu1<|zE<|retT [.bool true]<|⟨by rw [all_of_take hE (by rw [List.length_map];omega)];rfl,d0⟩
 refine kT<|seqE<|blockE<|sR<|sIdx hx (i:Int) runUnderlying35 sizeOf123 fun a0 _ _ b0 f0=>?_
 rw [Int.toNat_natCast] at b0
 have hnw_x_4:=(dx a0 (List.mem_of_getElem? b0)).weights.len;have hlw_x_4:=(dx a0 (List.mem_of_getElem? b0)).weights.le
 refine sLpA d0 (f0.up 0 rfl) 0 [I a0.first, .slice a0.weights.a a0.weights.n a0.weights.k] (isAgg123 _) (sizeOf123 _)<|sAlloc d0 zeroValue123 fun _ _ g0=>?_
 refine sT g0 0 0 (.agg #[I a0.first, .slice a0.weights.a a0.weights.n a0.weights.k]) [I a0.first, .slice a0.weights.a a0.weights.n a0.weights.k] #[I a0.first, .slice a0.weights.a a0.weights.n a0.weights.k] sizeOf123 fun _ c0=>zS<|pu1<|sL c0 0 1 (.slice a0.weights.a a0.weights.n a0.weights.k) (isAgg22 _)<|pu3<|sD 15 ((a0.weights.n:Int)>8) (fun h0=>?_) (fun h0=>?_)
 ·exact pu9<|zC<|pu1<|zB<|tR<|tK<|retT [.bool false]<|⟨by rw [all_false_at (map_at (f:=Tap.v) b0) (decide_eq_false (by simp only [Tap.v];omega))];rfl,(c0.dropAt 0 rfl)⟩
 refine pu1<|gY<|sL c0 0 0 (I a0.first) (isAgg3 _)<|pu3<|sD 20 (a0.first<(-128)) (fun j0=>?_) (fun j0=>?_)
 ·exact pu4<|zC<|pu1<|zB<|tR<|tK<|retT [.bool false]<|⟨by rw [all_false_at (map_at (f:=Tap.v) b0) (decide_eq_false (by simp only [Tap.v];omega))];rfl,(c0.dropAt 0 rfl)⟩
 refine pu1<|gY<|sL c0 0 0 (I a0.first) (isAgg3 _)<|pu2<|nT<|cD (a0.first>256) (fun l0=>?_) (fun l0=>?_)
 ·exact sR<|pu1<|zB<|tR<|tK<|retT [.bool false]<|⟨by rw [all_false_at (map_at (f:=Tap.v) b0) (decide_eq_false (by simp only [Tap.v];omega))];rfl,(c0.dropAt 0 rfl)⟩
 exact skipE<|bN<|tN<|rE<|sAdd (i:Int) 1<|pu1<|nT<|⟨i+1,od,alA,(c0.dropAt 0 rfl),om,all_succ hE (map_at (f:=Tap.v) b0) (decide_eq_true (by simp only [Tap.v];omega))⟩
theorem p16_acc (q:Stage) (hq:Stage.Ok [H] q) (hS:Sat W w (H::F)):
  Ro prog 173 #[.agg (encStage q).toArray] (.bool (decide (accV q.v))) W w (H::F):=by
 have hl_q_weights:=hq.weights.le;have hn_q_weights:=hq.weights.len
 have hl_q_row:=hq.row.le;have hn_q_row:=hq.row.len
 have hl_q_col:=hq.col.le;have hn_q_col:=hq.col.len
 have hl_q_x:=hq.x.le;have hn_q_x:=hq.x.len
 have hl_q_y:=hq.y.le;have hn_q_y:=hq.y.len
 have hl_q_ops:=hq.ops.le;have hn_q_ops:=hq.ops.len
 have hnr:=hn_q_row;have hnc:=hn_q_col;have hnX:=hn_q_x;have hnY:=hn_q_y
 refine callsA 40 func173 rfl<|sR<|sBox hS (.agg (encStage q).toArray) (encStage q).toArray fun _ _ j0=>pu1<|zQ<|lA j0 0 0 18 (isAgg38 _) (sizeOf38 _)<|cR call103 (p15_fields q ⟨(RdT.flat (hq.weights.up 1 (by rfl))),(RdT.flat (hq.row.up 1 (by rfl))),(RdT.flat (hq.col.up 1 (by rfl))),(RdT.flat (hq.x.up 1 (by rfl))),(fun z hz=>(hq.xD z hz).of_mem (mem_flat1 1 (by rfl))),(RdT.flat (hq.y.up 1 (by rfl))),(fun z hz=>(hq.yD z hz).of_mem (mem_flat1 1 (by rfl))),(RdT.flat (hq.ops.up 1 (by rfl)))⟩ j0.flat) fun _ a0=>pu1<|nT<|cDn (fieldsP q.v) (fun b0=>?_) (fun b0=>?_)
 rotate_left
 ·refine sR<|pu1<|zR<|retT [.bool false] ?_
  have k0:=(a0.dropAt 0 rfl)
  have hk:decide (accV q.v)=false:=decide_eq_false (fun h=>b0 h.1)
  exact ⟨by rw [hk];rfl,k0⟩
 refine kT<|seqE<|sR<|pu1<|sL a0 0 0 (I q.kind) (isAgg3 _)<|nT<|blockE<|sR<|pu2<|nT<|cE q.kind 1 (fun c0=>?_) (fun c0=>?_)
 ·refine sR<|pu1<|sL a0 0 6 (I q.kW) (isAgg3 _)<|cR call204 (p9_side q.kW a0.flat) fun _ d0=>pu1<|sD 13 ((1:Int)<=q.kW/\q.kW<=(9:Int)) (fun l0=>?_) (fun l0=>?_)
  rotate_left
  ·refine pu5<|zB<|retT [.bool false] ?_
   have m0:=(d0.dropAt 0 rfl)
   have hif:=acc1 (s:=q.v) b0 (show q.v.kind=1 from c0)
   have hk:decide (accV q.v)=false:=decide_eq_false (fun h=>by have h1:=hif.1 h;unfold kerP at h1;simp only [Stage.v,hnr,hnc] at h1;omega)
   exact ⟨by rw [hk];rfl,m0⟩
  refine pu1<|gY<|sL d0 0 7 (I q.kH) (isAgg3 _)<|gY<|cR call204 (p9_side q.kH d0.flat) fun _ n0=>pu2<|zB<|retT [.bool (decide ((1:Int)<=q.kH/\q.kH<=(9:Int)))] ?_
  have o0:=(n0.dropAt 0 rfl)
  have hif:=acc1 (s:=q.v) b0 (show q.v.kind=1 from c0)
  have hk:decide (accV q.v)=decide ((1:Int)<=q.kH/\q.kH<=(9:Int)):=by rw [Bool.eq_iff_iff,decide_eq_true_eq,hif];unfold kerP;simp only [Stage.v,hnr,hnc,decide_eq_true_eq,Bool.false_eq_true];omega
  exact ⟨by rw [hk];rfl,o0⟩
 refine sR<|pu2<|nT<|cE q.kind 2 (fun e0=>?_) (fun e0=>?_)
 ·refine sR<|pu1<|sL a0 0 9 (.slice q.row.a q.row.n q.row.k) (isAgg22 _)<|pu1<|cR call204 (p9_side (q.row.n:Int) a0.flat) fun _ f0=>pu1<|sD 24 ((1:Int)<=(q.row.n:Int)/\(q.row.n:Int)<=(9:Int)) (fun p0=>?_) (fun p0=>?_)
  rotate_left
  ·refine pu6<|zB<|retT [.bool false] ?_
   have q0:=(f0.dropAt 0 rfl)
   have hif:=acc2 (s:=q.v) b0 (show q.v.kind=2 from e0)
   have hk:decide (accV q.v)=false:=decide_eq_false (fun h=>by have h1:=hif.1 h;unfold kerP at h1;simp only [Stage.v,hnr,hnc] at h1;omega)
   exact ⟨by rw [hk];rfl,q0⟩
  refine pu1<|gY<|sL f0 0 10 (.slice q.col.a q.col.n q.col.k) (isAgg22 _)<|pu1<|gY<|cR call204 (p9_side (q.col.n:Int) f0.flat) fun _ r0=>pu2<|zB<|retT [.bool (decide ((1:Int)<=(q.col.n:Int)/\(q.col.n:Int)<=(9:Int)))] ?_
  have s0:=(r0.dropAt 0 rfl)
  have hif:=acc2 (s:=q.v) b0 (show q.v.kind=2 from e0)
  have hk:decide (accV q.v)=decide ((1:Int)<=(q.col.n:Int)/\(q.col.n:Int)<=(9:Int)):=by rw [Bool.eq_iff_iff,decide_eq_true_eq,hif];unfold kerP;simp only [Stage.v,hnr,hnc,decide_eq_true_eq,Bool.false_eq_true];omega
  exact ⟨by rw [hk];rfl,s0⟩
 refine sR<|pu2<|nT<|cE q.kind 3 (fun g0=>?_) (fun g0=>?_)
 rotate_left
 ·refine skipE<|bN<|tN<|sR<|pu1<|zE<|retT [.bool true] ?_
  have t0:=(a0.dropAt 0 rfl)
  have hif:=acc0 (s:=q.v) b0 (show ¬q.v.kind=1 by simp only [Stage.v];omega) (show ¬q.v.kind=2 by simp only [Stage.v];omega) (show ¬q.v.kind=3 by simp only [Stage.v];omega)
  have hk:decide (accV q.v)=true:=decide_eq_true hif
  exact ⟨by rw [hk];rfl,t0⟩
 refine sR<|pu1<|sL a0 0 13 (.slice q.x.a q.x.n q.x.k) (isAgg35 _)<|cR call205 (p16_taps q.x.a q.x.n q.x.k q.x.l (RdT.flat (hq.x.up 1 (by rfl))) (fun z hz=>(hq.xD z hz).of_mem (mem_flat1 1 (by rfl))) a0.flat) fun _ h0=>pu1<|sB 35 ((q.x.l.map Tap.v).all tapP) (fun i0=>?_) (fun i0=>?_)
 rotate_left
 ·refine pu5<|zB<|retT [.bool false] ?_
  have u0:=(h0.dropAt 0 rfl)
  have hif:=acc3 (s:=q.v) b0 (show q.v.kind=3 from g0)
  have hk:decide (accV q.v)=false:=decide_eq_false (fun h=>by have h1:=hif.1 h;first|exact i0 h1.1|exact i0 h1.2)
  exact ⟨by rw [hk];rfl,u0⟩
 refine pu1<|gY<|sL h0 0 14 (.slice q.y.a q.y.n q.y.k) (isAgg35 _)<|gY<|cR call205 (p16_taps q.y.a q.y.n q.y.k q.y.l (RdT.flat (hq.y.up 1 (by rfl))) (fun z hz=>(hq.yD z hz).of_mem (mem_flat1 1 (by rfl))) h0.flat) fun _ v0=>pu2<|zB<|retT [.bool ((q.y.l.map Tap.v).all tapP)] ?_
 have w0:=(v0.dropAt 0 rfl)
 have hif:=acc3 (s:=q.v) b0 (show q.v.kind=3 from g0)
 have hk:decide (accV q.v)=((q.y.l.map Tap.v).all tapP):=by rw [Bool.eq_iff_iff,decide_eq_true_eq,hif];simp only [Stage.v];simp_all
 exact ⟨by rw [hk];rfl,w0⟩
theorem p16_win (q:Stage) (i:Int) (sz:Int) (atb:Option Addr) (ntb ktb:Nat) (tb:List Tap) (hq:Stage.Ok [H] q) (htb:RdT encTap 2 [H] atb ntb ktb tb) (dtb:∀z∈tb,Tap.Ok [H] z) (hs:(¬(q.kind=1\/q.kind=2)\/(1<=sz/\sz<=9))/\0<=i/\i<=1000) (hS:Sat W w (H::F)):
  Ro prog 174 #[.agg (encStage q).toArray,I i,I sz, .slice atb ntb ktb] (.tuple #[I (winF q.kind i sz (tb.map Tap.v)),I (winC q.kind i sz (tb.map Tap.v))]) W w (H::F):=by
 have hl_q_weights:=hq.weights.le;have hn_q_weights:=hq.weights.len
 have hl_q_row:=hq.row.le;have hn_q_row:=hq.row.len
 have hl_q_col:=hq.col.le;have hn_q_col:=hq.col.len
 have hl_q_x:=hq.x.le;have hn_q_x:=hq.x.len
 have hl_q_y:=hq.y.le;have hn_q_y:=hq.y.len
 have hl_q_ops:=hq.ops.le;have hn_q_ops:=hq.ops.len
 have hl_tb:=htb.le;have hn_tb:=htb.len
 refine callsA 38 func174 rfl<|sR<|sBox hS (.agg (encStage q).toArray) (encStage q).toArray fun _ _ b0=>pu2<|zQ<|pu1<|sL b0 0 0 (I q.kind) (isAgg3 _)<|nT<|blockE<|seqE<|sR<|pu2<|nT<|cE q.kind 1 (fun f0=>?_) (fun f0=>?_)
 ·refine kT<|cT _ (beq_iff_eq.2 f0)<|seqE ?_
  have ht:sz.tdiv 2=sz/2:=Int.tdiv_eq_ediv_of_nonneg om
  refine rE<|pu2<|sQuo sz 2<|sSub i (sz.tdiv 2)<|pu3<|zB<|retT [I (i-(sz.tdiv 2)),I sz] ?_
  have i0:=(b0.dropAt 0 rfl)
  have h1:winF q.kind i sz (tb.map Tap.v)=(i-(sz.tdiv 2)):=by unfold winF;rw [if_pos om,ht]
  have h2:winC q.kind i sz (tb.map Tap.v)=sz:=by unfold winC;rw [if_pos om]
  exact ⟨by rw [h1,h2];rfl,i0⟩
 refine rE<|pu2<|nT<|cE q.kind 2 (fun j0=>?_) (fun j0=>?_)
 ·refine seqE ?_
  have ht:sz.tdiv 2=sz/2:=Int.tdiv_eq_ediv_of_nonneg om
  refine rE<|pu2<|sQuo sz 2<|sSub i (sz.tdiv 2)<|pu3<|zB<|retT [I (i-(sz.tdiv 2)),I sz] ?_
  have k0:=(b0.dropAt 0 rfl)
  have h1:winF q.kind i sz (tb.map Tap.v)=(i-(sz.tdiv 2)):=by unfold winF;rw [if_pos om,ht]
  have h2:winC q.kind i sz (tb.map Tap.v)=sz:=by unfold winC;rw [if_pos om]
  exact ⟨by rw [h1,h2];rfl,k0⟩
 refine sR<|pu2<|nT<|cE q.kind 3 (fun l0=>?_) (fun l0=>?_)
 rotate_left
 ·refine skipE<|bN<|tN<|sR<|pu3<|zE<|retT [I i,I 1] ?_
  have m0:=(b0.dropAt 0 rfl)
  have h1:winF q.kind i sz (tb.map Tap.v)=i:=by unfold winF;rw [if_neg om,if_neg om]
  have h2:winC q.kind i sz (tb.map Tap.v)=1:=by unfold winC;rw [if_neg om,if_neg om]
  exact ⟨by rw [h1,h2];rfl,m0⟩
 refine seqE<|sR<|pu4<|nT<|cD (i>=(ntb:Int)) (fun n0=>?_) (fun n0=>?_)
 ·refine sR<|pu2<|zE<|tR<|tK<|retT [I 0,I 0] ?_
  have o0:=(b0.dropAt 0 rfl)
  have hno:(tb.map Tap.v)[i.toNat]?=none:=List.getElem?_eq_none (by rw [List.length_map];omega)
  have h1:winF q.kind i sz (tb.map Tap.v)=0:=by unfold winF;rw [if_neg om,if_pos om,hno]
  have h2:winC q.kind i sz (tb.map Tap.v)=0:=by unfold winC;rw [if_neg om,if_pos om,hno]
  exact ⟨by rw [h1,h2];rfl,o0⟩
 refine kT<|seqE ?_
 obtain ⟨a0,c0,d0,e0,g0,h0⟩:=RdT.elem htb i
 have hnw_x_11:=(dtb a0 (List.mem_of_getElem? e0)).weights.len;have hlw_x_11:=(dtb a0 (List.mem_of_getElem? e0)).weights.le
 refine drawE [] [(4,⟨c0,d0+0,none⟩,I a0.first),(9,⟨c0,d0+1,none⟩, .slice a0.weights.a a0.weights.n a0.weights.k)] [(true,[0,1]),(true,[2]),(true,[3,5,6]),(true,[7]),(true,[8]),(true,[4]),(true,[11]),(true,[9]),(true,[10,12])] rfl kr ⟨.inr ((g0.up 1 rfl).cell b0 (k:=0) rfl), .inr ((g0.up 1 rfl).cell b0 (k:=1) rfl),trivial⟩ ?_
 have p0:=b0.drew
 refine wU [0,1]<|wY (.pointer (some ⟨c0,d0,none⟩)) rfl (fun w _=>Y_idx (a:=atb) (i:=i) (len:=ntb) (cap:=ktb) rfl runUnderlying35 sizeOf123 kr kr h0)<|wU [3,5,6]<|wY (.pointer (some ⟨c0,d0,none⟩)) rfl (fun w _=>Y_idx (a:=atb) (i:=i) (len:=ntb) (cap:=ktb) rfl runUnderlying35 sizeOf123 kr kr h0)<|wU [8]<|wLd (I a0.first) 0 isAgg3<|wU [11]<|wLd (.slice a0.weights.a a0.weights.n a0.weights.k) 1 isAgg22<|wU [10,12]<|wN<|tN<|retE<|bR<|tK<|retT [I a0.first,I (a0.weights.n:Int)] ?_
 have q0:=(p0.dropAt 0 rfl)
 have hmp:=map_at (f:=Tap.v) e0
 have h1:winF q.kind i sz (tb.map Tap.v)=a0.first:=by unfold winF;rw [if_neg om,if_pos om,hmp];rfl
 have h2:winC q.kind i sz (tb.map Tap.v)=(a0.weights.n:Int):=by unfold winC;rw [if_neg om,if_pos om,hmp];exact congrArg (fun (z:Nat)=>(z:Int)) hnw_x_11
 exact ⟨by rw [h1,h2];rfl,q0⟩
theorem p16_need (q:Stage) (n:Int) (fr:Int) (up:Int) (sz:Int) (atb:Option Addr) (ntb ktb:Nat) (tb:List Tap) (hq:Stage.Ok [H] q) (htb:RdT encTap 2 [H] atb ntb ktb tb) (dtb:∀z∈tb,Tap.Ok [H] z) (hsz:szOK q.v sz (tb.map Tap.v)) (hS:Sat W w (H::F)):
  Calls prog 147 #[.agg (encStage q).toArray,I n,I fr,I up,I sz, .slice atb ntb ktb] w fun e w'=>∃(az:Option Addr) (nz kz:Nat) (G:Chunk),e= .returned (.slice az nz kz)/\OwnT Go.E.encI 3 1 az nz kz (needV q.v n fr up sz (tb.map Tap.v)) G/\Sat W w' (G::H::F):=by
 have hl_q_weights:=hq.weights.le;have hn_q_weights:=hq.weights.len
 have hl_q_row:=hq.row.le;have hn_q_row:=hq.row.len
 have hl_q_col:=hq.col.le;have hn_q_col:=hq.col.len
 have hl_q_x:=hq.x.le;have hn_q_x:=hq.x.len
 have hl_q_y:=hq.y.le;have hn_q_y:=hq.y.len
 have hl_q_ops:=hq.ops.le;have hn_q_ops:=hq.ops.len
 have hl_tb:=htb.le;have hn_tb:=htb.len
 have hnr:=hn_q_row;have hnc:=hn_q_col;have hnX:=hn_q_x;have hnY:=hn_q_y
 refine callsA 104 func147 rfl<|sR<|sBox hS (.agg (encStage q).toArray) (encStage q).toArray fun a0 _ b0=>pu1<|nT<|seqE<|cutA (γ:=Unit) (fun _=>[(1,I n),(2,I fr),(3,I up),(4,I sz),(5, .slice atb ntb ktb),(6,Pt a0 0),(50, .bool (decide (¬(((1<=n/\n<=128)/\(0<=fr/\fr<=128)/\0<=up/\up<=128)/\accV q.v))))]) (fun _ w=>Sat W w ([(a0, .cells (encStage q).toArray 38 (0,0))]::H::F)) ?_ ?_
 ·refine rE<|pu3<|sD 26 (n<1) (fun o0=>?_) (fun o0=>?_)
  ·exact pu16<|pu8<|nT<|⟨(),⟨kr,kr,kr,kr,kr,kr,(Eq.trans (b:= .bool true) kr (congrArg Value.bool (decide_eq_true (p:=¬(((1<=n/\n<=128)/\(0<=fr/\fr<=128)/\0<=up/\up<=128)/\accV q.v)) om).symm)),trivial⟩,b0⟩
  refine pu4<|sD 30 (n>128) (fun p0=>?_) (fun p0=>?_)
  ·exact pu16<|pu4<|nT<|⟨(),⟨kr,kr,kr,kr,kr,kr,(Eq.trans (b:= .bool true) kr (congrArg Value.bool (decide_eq_true (p:=¬(((1<=n/\n<=128)/\(0<=fr/\fr<=128)/\0<=up/\up<=128)/\accV q.v)) om).symm)),trivial⟩,b0⟩
  refine pu4<|sD 34 (fr<0) (fun q0=>?_) (fun q0=>?_)
  ·exact pu16<|nT<|⟨(),⟨kr,kr,kr,kr,kr,kr,(Eq.trans (b:= .bool true) kr (congrArg Value.bool (decide_eq_true (p:=¬(((1<=n/\n<=128)/\(0<=fr/\fr<=128)/\0<=up/\up<=128)/\accV q.v)) om).symm)),trivial⟩,b0⟩
  refine pu4<|sD 38 (fr>128) (fun r0=>?_) (fun r0=>?_)
  ·exact pu12<|nT<|⟨(),⟨kr,kr,kr,kr,kr,kr,(Eq.trans (b:= .bool true) kr (congrArg Value.bool (decide_eq_true (p:=¬(((1<=n/\n<=128)/\(0<=fr/\fr<=128)/\0<=up/\up<=128)/\accV q.v)) om).symm)),trivial⟩,b0⟩
  refine pu4<|sD 42 (up<0) (fun s0=>?_) (fun s0=>?_)
  ·exact pu8<|nT<|⟨(),⟨kr,kr,kr,kr,kr,kr,(Eq.trans (b:= .bool true) kr (congrArg Value.bool (decide_eq_true (p:=¬(((1<=n/\n<=128)/\(0<=fr/\fr<=128)/\0<=up/\up<=128)/\accV q.v)) om).symm)),trivial⟩,b0⟩
  refine pu4<|sD 46 (up>128) (fun t0=>?_) (fun t0=>?_)
  ·exact pu4<|nT<|⟨(),⟨kr,kr,kr,kr,kr,kr,(Eq.trans (b:= .bool true) kr (congrArg Value.bool (decide_eq_true (p:=¬(((1<=n/\n<=128)/\(0<=fr/\fr<=128)/\0<=up/\up<=128)/\accV q.v)) om).symm)),trivial⟩,b0⟩
  refine gY<|lA b0 0 0 18 (isAgg38 _) (sizeOf38 _)<|gY<|cR call173 (p16_acc q ⟨(RdT.flat (hq.weights.up 1 (by rfl))),(RdT.flat (hq.row.up 1 (by rfl))),(RdT.flat (hq.col.up 1 (by rfl))),(RdT.flat (hq.x.up 1 (by rfl))),(fun z hz=>(hq.xD z hz).of_mem (mem_flat1 1 (by rfl))),(RdT.flat (hq.y.up 1 (by rfl))),(fun z hz=>(hq.yD z hz).of_mem (mem_flat1 1 (by rfl))),(RdT.flat (hq.ops.up 1 (by rfl)))⟩ b0.flat) fun _ u0=>pu2<|nT ?_
  exact ⟨(),⟨kr,kr,kr,kr,kr,kr,(Eq.trans (b:= .bool (!decide (accV q.v))) kr (congrArg Value.bool (by rw [Bool.eq_iff_iff];simp only [decide_eq_true_eq,beq_iff_eq,bne_iff_ne,ne_eq,Bool.not_eq_true',decide_eq_false_iff_not,gt_iff_lt,ge_iff_le,Bool.and_eq_true,Bool.or_eq_true,Bool.not_eq_eq_eq_not,Bool.not_true,Bool.and_eq_false_imp,beq_eq_false_iff_ne]<;>exact ⟨fun h hx=>h hx.2,fun h hx=>h ⟨om,hx⟩⟩))),trivial⟩,u0⟩
 rintro _ ρ _ c0
 refine cD (¬(((1<=n/\n<=128)/\(0<=fr/\fr<=128)/\0<=up/\up<=128)/\accV q.v)) (fun f0=>?_) (fun f0=>?_)
 ·refine sR<|pu1<|zR<|retT [nS] ?_
  have v0:=(c0.dropAt 0 rfl)
  have w0:Sat W _ ([]::H::F):=Sat.nilc v0
  have hl:([]:List Int)=needV q.v n fr up sz (tb.map Tap.v):=(by unfold needV;rw [if_neg (show ¬(lenP n fr up/\accV q.v) from f0)])
  have hrd:=OwnT.nil (enc:=Go.E.encI) (E:=3) (sz:=1) fR
  rw [hl] at hrd
  exact ⟨_,_,_,_,rfl,hrd,w0⟩
 refine kT<|seqE ?_
 obtain ⟨hlen,hacc⟩:lenP n fr up/\accV q.v:=Classical.not_not.1 f0
 have hln:=hlen;unfold lenP at hln;obtain ⟨hs1,ht1⟩:=hsz hacc;have hkd:=acc_kind hacc;replace hs1:¬(q.kind=1\/q.kind=2)\/(1<=sz/\sz<=9):=hs1;replace hkd:1<=q.kind/\q.kind<=6:=hkd
 refine rE<|pu2<|sL c0 0 4 (I q.edgePolicy) (isAgg3 _)<|pu1<|nT<|cutA (γ:=Unit) (fun _=>[(1,I n),(2,I fr),(3,I up),(4,I sz),(5, .slice atb ntb ktb),(6,Pt a0 0),(13,I (polV q.v))]) (fun _ w=>Sat W w ([(a0, .cells (encStage q).toArray 38 (0,0))]::H::F)) ?_ ?_
 ·refine sR<|pu1<|sL c0 0 0 (I q.kind) (isAgg3 _)<|nT<|blockE<|seqE<|sR<|pu2<|nT<|cE q.kind 4 (fun k0=>?_) (fun k0=>?_)
  ·refine kT<|cT _ (beq_iff_eq.2 k0)<|rE<|pu1<|nB ?_
   exact ⟨(),⟨kr,kr,kr,kr,kr,kr,(Eq.trans (b:=I 3) kr (congrArg (fun z=>Value.int .i64 z) (show 3=polV q.v from by unfold polV;rw [if_pos (by simp only [Stage.v];omega)]))),trivial⟩,c0⟩
  refine sR<|pu2<|nT<|cE q.kind 5 (fun l0=>?_) (fun l0=>?_)
  ·refine kT<|cT _ (beq_iff_eq.2 l0)<|rE<|pu1<|nB ?_
   exact ⟨(),⟨kr,kr,kr,kr,kr,kr,(Eq.trans (b:=I 3) kr (congrArg (fun z=>Value.int .i64 z) (show 3=polV q.v from by unfold polV;rw [if_pos (by simp only [Stage.v];omega)]))),trivial⟩,c0⟩
  refine rE<|pu2<|nT<|cE q.kind 6 (fun x0=>?_) (fun x0=>?_)
  ·refine rE<|pu1<|nB ?_
   exact ⟨(),⟨kr,kr,kr,kr,kr,kr,(Eq.trans (b:=I 3) kr (congrArg (fun z=>Value.int .i64 z) (show 3=polV q.v from by unfold polV;rw [if_pos (by simp only [Stage.v];omega)]))),trivial⟩,c0⟩
  refine skipE<|bN<|tN ?_
  exact ⟨(),⟨kr,kr,kr,kr,kr,kr,(Eq.trans (b:=I q.edgePolicy) kr (congrArg (fun z=>Value.int .i64 z) (show q.edgePolicy=polV q.v from by unfold polV;rw [if_neg (by simp only [Stage.v];omega)];rfl))),trivial⟩,c0⟩
 rintro _ ρ _ y0
 refine sR<|sAlloc y0 zeroValue191 fun d0 _ z0=>?_
 have a1:Sat W _ ((Tri d0 191 [] ((List.replicate 128 false).flatMap encKB) [])::[(a0, .cells (encStage q).toArray 38 (0,0))]::H::F):=sat_hdV kr z0
 refine zQ<|pu2<|nT<|blockE<|loopA (γ:=Nat×Int×(List Bool)) (fun ⟨i,cur,ks⟩=>[(1,I n),(3,I up),(4,I sz),(5, .slice atb ntb ktb),(6,Pt a0 0),(13,I (polV q.v)),(14,Pt d0 0),(15,I cur)]) (fun ⟨i,cur,ks⟩ w=>Sat W w ((Tri d0 191 [] (ks.flatMap encKB) [])::[(a0, .cells (encStage q).toArray 38 (0,0))]::H::F)/\i<=(up-fr).toNat/\(cur=fr+(i:Int))/\(MkB 128 ks (hitsV q.v n fr sz (tb.map Tap.v) i))) (fun ⟨i,cur,ks⟩=>((up-fr).toNat)-i) (0,fr,(List.replicate 128 false)) ⟨a1,om,om,(MkB.zero (fun m=>rfl))⟩ ?_
 rintro ⟨i,cur,ks⟩ ρ _ ⟨e0,hi,hcu,hM⟩
 have hk128_i:=hM.1
 refine seqE<|sR<|pu3<|nT<|cD (cur<up) (fun b1=>?_) (fun b1=>?_)
 rotate_left
 ·refine exitE<|xB<|tN<|sR<|pu1<|nT<|seqE<|seqE ?_
  have hi9:i=(up-fr).toNat:=by omega
  have hMf:MkB (128) ks (needB q.v n fr up sz (tb.map Tap.v)):=by rw [hi9] at hM;exact hM
  have hk9:=hM.1
  refine rE<|sLTV e0 0 (flat1_len (fun _=>rfl) hM.1) (isAgg191 _) (sizeOf191 _)<|pu1<|nT<|blockE ?_
  have c1:=Sat.nilc e0
  refine loopA (γ:=Nat×(List Int)×(Option Addr)×Nat×Nat×Chunk) (fun ⟨m,zs,azs,nzs,kzs,czs⟩=>[(92, .agg (ks.flatMap encKB).toArray),(93,I (m:Int)),(21, .slice azs nzs kzs)]) (fun ⟨m,zs,azs,nzs,kzs,czs⟩ w=>Sat W w (czs::(Tri d0 191 [] (ks.flatMap encKB) [])::[(a0, .cells (encStage q).toArray 38 (0,0))]::H::F)/\m<=128/\(zs=(uptoV m).filter (needB q.v n fr up sz (tb.map Tap.v)))/\OwnT Go.E.encI 3 1 azs nzs kzs zs czs) (fun ⟨m,zs,azs,nzs,kzs,czs⟩=>128-m) (0,[],none,0,0,[]) ⟨c1,om,by rfl,(OwnT.nil (enc:=Go.E.encI) (E:=3) (sz:=1) fR)⟩ ?_
  rintro ⟨m,zs,azs,nzs,kzs,czs⟩ ρ _ ⟨g0,hm,hE,hOzs⟩
  have hn_zs:=hOzs.len;have hl_zs:=hOzs.le
  refine sR<|pu1<|nT<|seqE<|cD ((m:Int)<128) (fun e1=>?_) (fun e1=>?_)
  rotate_left
  ·refine exitE<|xB<|tN<|sR<|pu2<|zE<|retT [.slice azs nzs kzs] ?_
   have f1:=(g0.drops [1,1])
   have hl:zs=needV q.v n fr up sz (tb.map Tap.v):=(by unfold needV;rw [if_pos ⟨hlen,hacc⟩,<-need_cut hlen.1,hE,show m=128 by omega])
   have hrd:=hOzs
   rw [hl] at hrd
   exact ⟨_,_,_,_,rfl,hrd,f1⟩
  refine kT<|seqE<|blockE<|sR<|pu1 ?_
  obtain ⟨g1,h0⟩:=at_some hM.1 (k:=m) om
  refine sIdxV (m:Int) m runUnderlying191 sizeOf4 isAgg4 (flat1_at (f:=fun z=> .bool z) h0)<|pu2<|zS<|pu1<|nT<|cB g1 (fun i0=>?_) (fun i0=>?_)
  rotate_left
  ·exact skipE<|bN<|tN<|rE<|sAdd (m:Int) 1<|pu1<|nT<|⟨(m+1,zs,azs,nzs,kzs,czs),od,alA,g0,om,(by rw [upto_snoc_filter,<-hMf.at h0,if_neg i0,<-hE,List.append_nil]),hOzs⟩
  have hzl:zs.length<=m:=by rw [hE];exact Nat.le_trans (List.length_filter_le _ _) (by rw [upto_len];exact Nat.le_refl _)
  exact rE<|pu2<|sBS g0 #[I (m:Int)] runUnderlying22 sizeOf3 zeroValue3 fun _ _ h1=>sApp (nb:=8) h1 hOzs 1 (RdT.blk (enc:=Go.E.encI) (sz:=1) (xs:=[(m:Int)]) fR 1 0 rfl rfl rfl om) underlying22 (i:=Tryz.t3) kr fR fun i1 j1 k1 _ l1 m1=>pu1<|nB<|rE<|sAdd (m:Int) 1<|pu1<|nT<|⟨(m+1,(zs++[(m:Int)]),i1,(nzs+1),j1,k1),od,alA,(m1.dropAt 0 rfl),om,(by rw [upto_snoc_filter,<-hMf.at h0,if_pos i0,<-hE]),l1⟩
 refine kT<|seqE<|blockE<|sR<|lA e0 1 0 18 (isAgg38 _) (sizeOf38 _)<|pu3<|cR call174 (p16_win q cur sz atb ntb ktb tb ⟨(RdT.flat (hq.weights.up 2 (by rfl))),(RdT.flat (hq.row.up 2 (by rfl))),(RdT.flat (hq.col.up 2 (by rfl))),(RdT.flat (hq.x.up 2 (by rfl))),(fun z hz=>(hq.xD z hz).of_mem (mem_flat1 2 (by rfl))),(RdT.flat (hq.y.up 2 (by rfl))),(fun z hz=>(hq.yD z hz).of_mem (mem_flat1 2 (by rfl))),(RdT.flat (hq.ops.up 2 (by rfl)))⟩ (RdT.flat (htb.up 2 (by rfl))) (fun z hz=>(dtb z hz).of_mem (mem_flat1 2 (by rfl))) ⟨hs1,om⟩ e0.flat) fun _ o1=>pu5<|nT<|seqE ?_
 have hwb:=win_bd (kd:=q.kind) (k:=cur) (size:=sz) (t:=(tb.map Tap.v)) hs1 ht1 om
 refine rE<|pu2<|nT<|blockE ?_
 refine loopA (γ:=Nat×Int×(List Bool)) (fun ⟨k,cv,kt⟩=>[(1,I n),(3,I up),(4,I sz),(5, .slice atb ntb ktb),(6,Pt a0 0),(13,I (polV q.v)),(14,Pt d0 0),(15,I cur),(16,I (winF q.kind cur sz (tb.map Tap.v))),(17,I (winC q.kind cur sz (tb.map Tap.v))),(18,I cv)]) (fun ⟨k,cv,kt⟩ w=>Sat W w ((Tri d0 191 [] (kt.flatMap encKB) [])::[(a0, .cells (encStage q).toArray 38 (0,0))]::H::F)/\k<=(winC q.kind cur sz (tb.map Tap.v)).toNat/\(cv=(winF q.kind cur sz (tb.map Tap.v))+(k:Int))/\(MkB 128 kt (fun m=>hitsV q.v n fr sz (tb.map Tap.v) i m||(List.range k).any fun j=>decide (idxV ((winF q.kind cur sz (tb.map Tap.v))+(j:Int)) n (polV q.v)=some m)))) (fun ⟨k,cv,kt⟩=>((winC q.kind cur sz (tb.map Tap.v)).toNat)-k) (0,(winF q.kind cur sz (tb.map Tap.v)),ks) ⟨o1,om,om,(hM.congr (fun m=>by simp))⟩ ?_
 rintro ⟨k,cv,kt⟩ ρ _ ⟨m0,hk,hcv,hM2⟩
 have hk128_k:=hM2.1
 refine seqE<|sR<|pu3<|sAdd (winF q.kind cur sz (tb.map Tap.v)) (winC q.kind cur sz (tb.map Tap.v))<|pu1<|nT<|cD (cv<((winF q.kind cur sz (tb.map Tap.v))+(winC q.kind cur sz (tb.map Tap.v)))) (fun q1=>?_) (fun q1=>?_)
 rotate_left
 ·exact exitE<|xB<|bN<|tN<|rE<|pu1<|sAdd cur 1<|pu1<|nT<|⟨(i+1,(cur+1),kt),od,alA,m0,om,om,(hM2.congr (fun m=>(hits_succ (s:=q.v) hcu (by simp only [Stage.v];omega)).symm))⟩
 refine kT<|seqE<|blockE<|sR<|pu3<|cR call175 (p3_index cv n (polV q.v) m0.flat) fun _ n0=>pu5<|zS<|pu1<|nT<|cB ((idxV cv n (polV q.v)).isSome) (fun j0=>?_) (fun j0=>?_)
 rotate_left
 ·exact skipE<|bN<|tN<|rE<|pu1<|sAdd cv 1<|pu1<|nT<|⟨(k+1,(cv+1),kt),od,alA,n0,om,om,(hM2.none (by rw [<-hcv];exact Option.not_isSome_iff_eq_none.1 j0))⟩
 obtain ⟨c,hc⟩:=Option.isSome_iff_exists.1 j0
 have hcb:=idx_bd hc;have hgd:(idxV cv n (polV q.v)).getD 0=c:=(by simp [hc]);have hc2:idxV ((winF q.kind cur sz (tb.map Tap.v))+(k:Int)) n (polV q.v)=some c:=(by rw [<-hcv];exact hc)
 refine rE<|pu1 ?_
 obtain ⟨r1,s1⟩:=at_some hM2.1 (k:=(((idxV cv n (polV q.v)).getD 0).toNat)) om
 exact sIdxA (b:=d0) (off:=0) ((idxV cv n (polV q.v)).getD 0) (((idxV cv n (polV q.v)).getD 0).toNat) runUnderlying191 sizeOf4<|sTel (enc:=encKB) (sz:=1) n0 fR 0 (((idxV cv n (polV q.v)).getD 0).toNat) 0 0 r1 true s1 (.bool true) [.bool true] sizeOf4 fun _ t1=>nB<|rE<|pu1<|sAdd cv 1<|pu1<|nT<|⟨(k+1,(cv+1),(kt.set (((idxV cv n (polV q.v)).getD 0).toNat) true)),od,alA,t1,om,om,(by rw [hgd];exact MkB.one (c:=c) hM2 hc2 om)⟩
theorem p16_cols (q:Stage) (n:Int) (fr:Int) (up:Int) (hq:Stage.Ok [H] q) (hS:Sat W w (H::F)):
  Calls prog 161 #[.agg (encStage q).toArray,I n,I fr,I up] w fun e w'=>∃(az:Option Addr) (nz kz:Nat) (G:Chunk),e= .returned (.slice az nz kz)/\OwnT Go.E.encI 3 1 az nz kz (colsV q.v n fr up) G/\Sat W w' (G::H::F):=by
 have hl_q_weights:=hq.weights.le;have hn_q_weights:=hq.weights.len
 have hl_q_row:=hq.row.le;have hn_q_row:=hq.row.len
 have hl_q_col:=hq.col.le;have hn_q_col:=hq.col.len
 have hl_q_x:=hq.x.le;have hn_q_x:=hq.x.len
 have hl_q_y:=hq.y.le;have hn_q_y:=hq.y.len
 have hl_q_ops:=hq.ops.le;have hn_q_ops:=hq.ops.len
 have hnr:=hn_q_row;have hnc:=hn_q_col;have hnX:=hn_q_x;have hnY:=hn_q_y
 refine callsA 26 func161 rfl<|sR<|sBox hS (.agg (encStage q).toArray) (encStage q).toArray fun _ _ a0=>pu1<|zS<|pu1<|sL a0 0 6 (I q.kW) (isAgg3 _)<|pu1<|zQ<|pu1<|sL a0 0 0 (I q.kind) (isAgg3 _)<|pu1<|nT<|cE q.kind 2 (fun b0=>?_) (fun b0=>?_)
 rotate_left
 ·refine kS<|lA a0 0 0 18 (isAgg38 _) (sizeOf38 _)<|pu5<|sL a0 0 13 (.slice q.x.a q.x.n q.x.k) (isAgg35 _)<|cX call147 (p16_need q n fr up q.kW q.x.a q.x.n q.x.k q.x.l ⟨(RdT.flat (hq.weights.up 1 (by rfl))),(RdT.flat (hq.row.up 1 (by rfl))),(RdT.flat (hq.col.up 1 (by rfl))),(RdT.flat (hq.x.up 1 (by rfl))),(fun z hz=>(hq.xD z hz).of_mem (mem_flat1 1 (by rfl))),(RdT.flat (hq.y.up 1 (by rfl))),(fun z hz=>(hq.yD z hz).of_mem (mem_flat1 1 (by rfl))),(RdT.flat (hq.ops.up 1 (by rfl)))⟩ (RdT.flat (hq.x.up 1 (by rfl))) (fun z hz=>(hq.xD z hz).of_mem (mem_flat1 1 (by rfl))) (by have h:=szOK_cols q.v;rw [if_neg (show ¬q.v.kind=2 from b0)] at h;exact h) a0.flat) ?_
  rintro _ _ ⟨e0,f0,g0,_,rfl,c0,h0⟩
  have i0:=h0.unflat1
  have hn_az_17:=c0.len;have hl_az_17:=c0.le
  refine pu1<|zE<|retT [.slice e0 f0 g0] ?_
  have j0:=(i0.dropAt 1 rfl)
  have hl:(needV q.v n fr up q.kW (q.x.l.map Tap.v))=colsV q.v n fr up:=(by unfold colsV;rw [if_neg (show ¬q.v.kind=2 from b0)];rfl)
  have hrd:=c0
  rw [hl] at hrd
  exact ⟨_,_,_,_,rfl,hrd,j0⟩
 refine rE<|pu1<|sL a0 0 9 (.slice q.row.a q.row.n q.row.k) (isAgg22 _)<|pu2<|zS<|lA a0 0 0 18 (isAgg38 _) (sizeOf38 _)<|pu5<|sL a0 0 13 (.slice q.x.a q.x.n q.x.k) (isAgg35 _) ?_
 refine cX call147 (p16_need q n fr up (q.row.n:Int) q.x.a q.x.n q.x.k q.x.l ⟨(RdT.flat (hq.weights.up 1 (by rfl))),(RdT.flat (hq.row.up 1 (by rfl))),(RdT.flat (hq.col.up 1 (by rfl))),(RdT.flat (hq.x.up 1 (by rfl))),(fun z hz=>(hq.xD z hz).of_mem (mem_flat1 1 (by rfl))),(RdT.flat (hq.y.up 1 (by rfl))),(fun z hz=>(hq.yD z hz).of_mem (mem_flat1 1 (by rfl))),(RdT.flat (hq.ops.up 1 (by rfl)))⟩ (RdT.flat (hq.x.up 1 (by rfl))) (fun z hz=>(hq.xD z hz).of_mem (mem_flat1 1 (by rfl))) (by have h:=szOK_cols q.v;rw [if_pos (show q.v.kind=2 from b0),show q.v.row.length=q.row.n from hnr] at h;exact h) a0.flat) ?_
 rintro _ _ ⟨k0,l0,m0,_,rfl,d0,n0⟩
 have o0:=n0.unflat1
 have hn_az_8:=d0.len;have hl_az_8:=d0.le
 refine pu1<|zE<|retT [.slice k0 l0 m0] ?_
 have p0:=(o0.dropAt 1 rfl)
 have hl:(needV q.v n fr up (q.row.n:Int) (q.x.l.map Tap.v))=colsV q.v n fr up:=(by unfold colsV;rw [if_pos (show q.v.kind=2 from b0),show q.v.row.length=q.row.n from hnr];rfl)
 have hrd:=d0
 rw [hl] at hrd
 exact ⟨_,_,_,_,rfl,hrd,p0⟩
theorem p16_rows (q:Stage) (n:Int) (fr:Int) (up:Int) (hq:Stage.Ok [H] q) (hS:Sat W w (H::F)):
  Calls prog 110 #[.agg (encStage q).toArray,I n,I fr,I up] w fun e w'=>∃(az:Option Addr) (nz kz:Nat) (G:Chunk),e= .returned (.slice az nz kz)/\OwnT Go.E.encI 3 1 az nz kz (rowsV q.v n fr up) G/\Sat W w' (G::H::F):=by
 have hl_q_weights:=hq.weights.le;have hn_q_weights:=hq.weights.len
 have hl_q_row:=hq.row.le;have hn_q_row:=hq.row.len
 have hl_q_col:=hq.col.le;have hn_q_col:=hq.col.len
 have hl_q_x:=hq.x.le;have hn_q_x:=hq.x.len
 have hl_q_y:=hq.y.le;have hn_q_y:=hq.y.len
 have hl_q_ops:=hq.ops.le;have hn_q_ops:=hq.ops.len
 have hnr:=hn_q_row;have hnc:=hn_q_col;have hnX:=hn_q_x;have hnY:=hn_q_y
 refine callsA 26 func110 rfl<|sR<|sBox hS (.agg (encStage q).toArray) (encStage q).toArray fun _ _ a0=>pu1<|zS<|pu1<|sL a0 0 7 (I q.kH) (isAgg3 _)<|pu1<|zQ<|pu1<|sL a0 0 0 (I q.kind) (isAgg3 _)<|pu1<|nT<|cE q.kind 2 (fun b0=>?_) (fun b0=>?_)
 rotate_left
 ·refine kS<|lA a0 0 0 18 (isAgg38 _) (sizeOf38 _)<|pu5<|sL a0 0 14 (.slice q.y.a q.y.n q.y.k) (isAgg35 _)<|cX call147 (p16_need q n fr up q.kH q.y.a q.y.n q.y.k q.y.l ⟨(RdT.flat (hq.weights.up 1 (by rfl))),(RdT.flat (hq.row.up 1 (by rfl))),(RdT.flat (hq.col.up 1 (by rfl))),(RdT.flat (hq.x.up 1 (by rfl))),(fun z hz=>(hq.xD z hz).of_mem (mem_flat1 1 (by rfl))),(RdT.flat (hq.y.up 1 (by rfl))),(fun z hz=>(hq.yD z hz).of_mem (mem_flat1 1 (by rfl))),(RdT.flat (hq.ops.up 1 (by rfl)))⟩ (RdT.flat (hq.y.up 1 (by rfl))) (fun z hz=>(hq.yD z hz).of_mem (mem_flat1 1 (by rfl))) (by have h:=szOK_rows q.v;rw [if_neg (show ¬q.v.kind=2 from b0)] at h;exact h) a0.flat) ?_
  rintro _ _ ⟨e0,f0,g0,_,rfl,c0,h0⟩
  have i0:=h0.unflat1
  have hn_az_17:=c0.len;have hl_az_17:=c0.le
  refine pu1<|zE<|retT [.slice e0 f0 g0] ?_
  have j0:=(i0.dropAt 1 rfl)
  have hl:(needV q.v n fr up q.kH (q.y.l.map Tap.v))=rowsV q.v n fr up:=(by unfold rowsV;rw [if_neg (show ¬q.v.kind=2 from b0)];rfl)
  have hrd:=c0
  rw [hl] at hrd
  exact ⟨_,_,_,_,rfl,hrd,j0⟩
 refine rE<|pu1<|sL a0 0 10 (.slice q.col.a q.col.n q.col.k) (isAgg22 _)<|pu2<|zS<|lA a0 0 0 18 (isAgg38 _) (sizeOf38 _)<|pu5<|sL a0 0 14 (.slice q.y.a q.y.n q.y.k) (isAgg35 _) ?_
 refine cX call147 (p16_need q n fr up (q.col.n:Int) q.y.a q.y.n q.y.k q.y.l ⟨(RdT.flat (hq.weights.up 1 (by rfl))),(RdT.flat (hq.row.up 1 (by rfl))),(RdT.flat (hq.col.up 1 (by rfl))),(RdT.flat (hq.x.up 1 (by rfl))),(fun z hz=>(hq.xD z hz).of_mem (mem_flat1 1 (by rfl))),(RdT.flat (hq.y.up 1 (by rfl))),(fun z hz=>(hq.yD z hz).of_mem (mem_flat1 1 (by rfl))),(RdT.flat (hq.ops.up 1 (by rfl)))⟩ (RdT.flat (hq.y.up 1 (by rfl))) (fun z hz=>(hq.yD z hz).of_mem (mem_flat1 1 (by rfl))) (by have h:=szOK_rows q.v;rw [if_pos (show q.v.kind=2 from b0),show q.v.col.length=q.col.n from hnc] at h;exact h) a0.flat) ?_
 rintro _ _ ⟨k0,l0,m0,_,rfl,d0,n0⟩
 have o0:=n0.unflat1
 have hn_az_8:=d0.len;have hl_az_8:=d0.le
 refine pu1<|zE<|retT [.slice k0 l0 m0] ?_
 have p0:=(o0.dropAt 1 rfl)
 have hl:(needV q.v n fr up (q.col.n:Int) (q.y.l.map Tap.v))=rowsV q.v n fr up:=(by unfold rowsV;rw [if_pos (show q.v.kind=2 from b0),show q.v.col.length=q.col.n from hnc];rfl)
 have hrd:=d0
 rw [hl] at hrd
 exact ⟨_,_,_,_,rfl,hrd,p0⟩
theorem p16_some (al:Option Addr) (nl kl:Nat) (l:List Int) (a:Int) (b:Int) (hl:RdT Go.E.encI 1 [H] al nl kl l) (hS:Sat W w (H::F)):
  Ro prog 162 #[.slice al nl kl,I a,I b] (.bool (someV l a b)) W w (H::F):=by
 have hl_l:=hl.le;have hn_l:=hl.len
 refine callsA 24 func162 rfl<|sR<|pu1<|zQ<|pu3<|nT<|blockE<|loopA (γ:=Nat) (fun i=>[(1,I a),(2,I b),(9, .slice al nl kl),(10,I (nl:Int)),(11,I (i:Int))]) (fun i w=>Sat W w (H::F)/\i<=nl/\((l.take i).any (fun v=>decide (a<=v/\v<b))=false)) (fun i=>nl-i) 0 ⟨hS,om,by rfl⟩ ?_
 rintro i ρ _ ⟨a0,hi,hE⟩
 refine sR<|pu1<|nT<|seqE<|cD ((i:Int)<(nl:Int)) (fun d0=>?_) (fun d0=>?_)
 rotate_left
 ·refine exitE<|xB<|tN<|sR<|pu1<|zE<|retT [.bool false] ?_
  exact ⟨by rw [show someV l a b=false from by rw [List.take_of_length_le om] at hE;exact hE];rfl,a0⟩
 refine kT<|seqE<|blockE<|sR<|sIdx hl (i:Int) runUnderlying22 sizeOf3 fun c0 _ _ b0 e0=>?_
 rw [Int.toNat_natCast] at b0
 refine sLp a0 (e0.up 0 rfl) 0 (I c0) (isAgg3 _)<|pu1<|zS<|pu4<|sD 18 (a<=c0) (fun f0=>?_) (fun f0=>?_)
 rotate_left
 ·exact pu4<|nT<|cFf<|skipE<|bN<|tN<|rE<|sAdd (i:Int) 1<|pu1<|nT<|⟨i+1,od,alA,a0,om,(any_take_no hE b0 (decide_eq_false om))⟩
 refine pu4<|nT<|cD (c0<b) (fun g0=>?_) (fun g0=>?_)
 rotate_left
 ·exact skipE<|bN<|tN<|rE<|sAdd (i:Int) 1<|pu1<|nT<|⟨i+1,od,alA,a0,om,(any_take_no hE b0 (decide_eq_false om))⟩
 exact sR<|pu1<|zB<|tR<|tK<|retT [.bool true]<|⟨by rw [show someV l a b=true from any_of_at (p:=(fun v=>decide (a<=v/\v<b))) b0 (decide_eq_true om)];rfl,a0⟩
theorem p16_tiles (q:Stage) (w0:Int) (h0:Int) (tw:Int) (th:Int) (r:Rct) (hq:Stage.Ok [H] q) (hS:Sat W w (H::F)):
  Calls prog 133 #[.agg (encStage q).toArray,I w0,I h0,I tw,I th, .agg (encRct r).toArray] w fun e w'=>∃(az:Option Addr) (nz kz:Nat) (G:Chunk),e= .returned (.slice az nz kz)/\OwnT Go.E.encI 3 1 az nz kz (tilesV q.v w0 h0 tw th r) G/\Sat W w' (G::H::F):=by
 have hl_q_weights:=hq.weights.le;have hn_q_weights:=hq.weights.len
 have hl_q_row:=hq.row.le;have hn_q_row:=hq.row.len
 have hl_q_col:=hq.col.le;have hn_q_col:=hq.col.len
 have hl_q_x:=hq.x.le;have hn_q_x:=hq.x.len
 have hl_q_y:=hq.y.le;have hn_q_y:=hq.y.len
 have hl_q_ops:=hq.ops.le;have hn_q_ops:=hq.ops.len
 refine callsA 87 func133 rfl<|sR<|sBox hS (.agg (encStage q).toArray) (encStage q).toArray fun n0 _ v0=>sBox v0 (.agg (encRct r).toArray) (encRct r).toArray fun o0 _ z0=>pu1<|zS<|pu4<|cR call88 (p5_count w0 h0 tw th z0.flat) fun _ a0=>pu5<|zQ<|pu3<|sE 30 (colsN w0 h0 tw th) 0 (fun a1=>?_) (fun a1=>?_)
 ·refine pu3<|zC<|pu1<|zR<|retT [nS] ?_
  have b1:=(a0.drops [0,0])
  have c1:Sat W _ ([]::H::F):=Sat.nilc b1
  have hl:([]:List Int)=tilesV q.v w0 h0 tw th r:=(by rw [tiles_zero (fun hf=>by have hb:=cols_bd hf;omega)])
  have hrd:=OwnT.nil (enc:=Go.E.encI) (E:=3) (sz:=1) fR
  rw [hl] at hrd
  exact ⟨_,_,_,_,rfl,hrd,c1⟩
 refine pu3<|nT<|cE (rowsN w0 h0 tw th) 0 (fun d1=>?_) (fun d1=>?_)
 ·refine sR<|pu1<|zR<|retT [nS] ?_
  have e1:=(a0.drops [0,0])
  have f1:Sat W _ ([]::H::F):=Sat.nilc e1
  have hl:([]:List Int)=tilesV q.v w0 h0 tw th r:=(by rw [tiles_zero (fun hf=>by have hb:=cols_bd hf;omega)])
  have hrd:=OwnT.nil (enc:=Go.E.encI) (E:=3) (sz:=1) fR
  rw [hl] at hrd
  exact ⟨_,_,_,_,rfl,hrd,f1⟩
 refine kT<|seqE ?_
 have hf:=cols_pos (w:=w0) (h:=h0) (tw:=tw) (th:=th) om;have hb:=cols_bd hf;have hf0:=hf;unfold fineP at hf0;obtain ⟨nx,hnx⟩:∃z,z=(colsN w0 h0 tw th):=⟨_,rfl⟩;obtain ⟨ny,hny⟩:∃z,z=(rowsN w0 h0 tw th):=⟨_,rfl⟩;rw [<-hnx,<-hny] at hb
 refine rE<|lA a0 1 0 18 (isAgg38 _) (sizeOf38 _)<|pu2<|sL a0 0 0 (I r.x0) (isAgg3 _)<|pu1<|sL a0 0 2 (I r.x1) (isAgg3 _)<|cX call161 (p16_cols q w0 r.x0 r.x1 ⟨(RdT.flat (hq.weights.up 2 (by rfl))),(RdT.flat (hq.row.up 2 (by rfl))),(RdT.flat (hq.col.up 2 (by rfl))),(RdT.flat (hq.x.up 2 (by rfl))),(fun z hz=>(hq.xD z hz).of_mem (mem_flat1 2 (by rfl))),(RdT.flat (hq.y.up 2 (by rfl))),(fun z hz=>(hq.yD z hz).of_mem (mem_flat1 2 (by rfl))),(RdT.flat (hq.ops.up 2 (by rfl)))⟩ a0.flat) ?_
 rintro _ _ ⟨d0,e0,f0,p0,rfl,g0,g1⟩
 have b0:=g1.unflat1
 have hn_az_19:=g0.len;have hl_az_19:=g0.le
 refine pu1<|zS<|lA b0 2 0 18 (isAgg38 _) (sizeOf38 _)<|pu2<|sL b0 1 1 (I r.y0) (isAgg3 _)<|pu1<|sL b0 1 3 (I r.y1) (isAgg3 _)<|cX call110 (p16_rows q h0 r.y0 r.y1 ⟨(RdT.flat (hq.weights.up 3 (by rfl))),(RdT.flat (hq.row.up 3 (by rfl))),(RdT.flat (hq.col.up 3 (by rfl))),(RdT.flat (hq.x.up 3 (by rfl))),(fun z hz=>(hq.xD z hz).of_mem (mem_flat1 3 (by rfl))),(RdT.flat (hq.y.up 3 (by rfl))),(fun z hz=>(hq.yD z hz).of_mem (mem_flat1 3 (by rfl))),(RdT.flat (hq.ops.up 3 (by rfl)))⟩ b0.flat) ?_
 rintro _ _ ⟨i0,j0,k0,q0,rfl,l0,h1⟩
 have i1:=h1.unflat1
 have hn_az_27:=l0.len;have hl_az_27:=l0.le
 refine pu1<|zS<|pu1<|zQ<|pu2<|nT<|blockE ?_
 have j1:=Sat.nilc i1
 have k1:=OwnT.nil (enc:=Go.E.encI) (E:=3) (sz:=1) fR
 refine loopA (γ:=Nat×(List Int)×(Option Addr)×Nat×Nat×Chunk) (fun ⟨i,zs,azs,nzs,kzs,czs⟩=>[(3,I tw),(4,I th),(13,I (colsN w0 h0 tw th)),(15, .slice d0 e0 f0),(16, .slice i0 j0 k0),(48,I (rowsN w0 h0 tw th)),(49,I (i:Int)),(17, .slice azs nzs kzs)]) (fun ⟨i,zs,azs,nzs,kzs,czs⟩ w=>Sat W w (czs::q0::p0::[(o0, .cells (encRct r).toArray 44 (0,0))]::[(n0, .cells (encStage q).toArray 38 (0,0))]::H::F)/\i<=ny.toNat/\(zs=(uptoV (i*nx.toNat)).filter (fun i=>someV (colsV q.v w0 r.x0 r.x1) (i%(colsN w0 h0 tw th)*tw) ((i%(colsN w0 h0 tw th)+1)*tw)&&someV (rowsV q.v h0 r.y0 r.y1) (i/(colsN w0 h0 tw th)*th) ((i/(colsN w0 h0 tw th)+1)*th)))/\OwnT Go.E.encI 3 1 azs nzs kzs zs czs) (fun ⟨i,zs,azs,nzs,kzs,czs⟩=>ny.toNat-i) (0,[],none,0,0,[]) ⟨j1,om,(by rw [Nat.zero_mul];rfl),k1⟩ ?_
 rintro ⟨i,zs,azs,nzs,kzs,czs⟩ ρ _ ⟨r0,hi,hE,hOzs⟩
 have hn_zs:=hOzs.len;have hl_zs:=hOzs.le
 refine sR<|pu1<|nT<|seqE<|cD ((i:Int)<(rowsN w0 h0 tw th)) (fun l1=>?_) (fun l1=>?_)
 rotate_left
 ·refine exitE<|xB<|tN<|sR<|pu2<|zE<|retT [.slice azs nzs kzs] ?_
  have n1:=(r0.drops [1,1,1,1])
  have hl:zs=tilesV q.v w0 h0 tw th r:=(by unfold tilesV;rw [hE,show i*nx.toNat=tilN w0 h0 tw th by unfold tilN;rw [show i=ny.toNat by omega,<-hnx,<-hny,Int.mul_comm nx ny,Int.toNat_mul om om]])
  have hrd:=hOzs
  rw [hl] at hrd
  exact ⟨_,_,_,_,rfl,hrd,n1⟩
 refine kT<|seqE<|blockE<|sR<|pu2<|zS<|pu2<|nT<|blockE ?_
 refine loopA (γ:=Nat×(List Int)×(Option Addr)×Nat×Nat×Chunk) (fun ⟨j,zt,azt,nzt,kzt,czt⟩=>[(3,I tw),(4,I th),(13,I (colsN w0 h0 tw th)),(15, .slice d0 e0 f0),(16, .slice i0 j0 k0),(48,I (rowsN w0 h0 tw th)),(49,I (i:Int)),(18,I (i:Int)),(52,I (colsN w0 h0 tw th)),(53,I (j:Int)),(17, .slice azt nzt kzt)]) (fun ⟨j,zt,azt,nzt,kzt,czt⟩ w=>Sat W w (czt::q0::p0::[(o0, .cells (encRct r).toArray 44 (0,0))]::[(n0, .cells (encStage q).toArray 38 (0,0))]::H::F)/\j<=nx.toNat/\(zt=(uptoV (i*nx.toNat+j)).filter (fun i=>someV (colsV q.v w0 r.x0 r.x1) (i%(colsN w0 h0 tw th)*tw) ((i%(colsN w0 h0 tw th)+1)*tw)&&someV (rowsV q.v h0 r.y0 r.y1) (i/(colsN w0 h0 tw th)*th) ((i/(colsN w0 h0 tw th)+1)*th)))/\OwnT Go.E.encI 3 1 azt nzt kzt zt czt) (fun ⟨j,zt,azt,nzt,kzt,czt⟩=>nx.toNat-j) (0,zs,azs,nzs,kzs,czs) ⟨r0,om,(by rw [Nat.add_zero];exact hE),hOzs⟩ ?_
 rintro ⟨j,zt,azt,nzt,kzt,czt⟩ ρ _ ⟨s0,hj,hE2,hOzt⟩
 have hn_zt:=hOzt.len;have hl_zt:=hOzt.le
 refine sR<|pu1<|nT<|seqE<|cD ((j:Int)<(colsN w0 h0 tw th)) (fun o1=>?_) (fun o1=>?_)
 rotate_left
 ·refine exitE<|xB<|bN<|tN<|rE<|sAdd (i:Int) 1<|pu1<|nT ?_
  exact ⟨(i+1,zt,azt,nzt,kzt,czt),od,alA,s0,om,(by rw [Nat.add_mul,Nat.one_mul,hE2,show j=nx.toNat by omega]),hOzt⟩
 refine kT<|seqE<|blockE<|sR<|pu2<|nT<|seqE ?_
 have m1:=mul_bd (a:=(j:Int)) (b:=tw) (A:=128) (B:=64) om om;have m2:=mul_bd (a:=(j:Int)+1) (b:=tw) (A:=129) (B:=64) om om;have m3:=mul_bd (a:=(i:Int)) (b:=th) (A:=128) (B:=64) om om;have m4:=mul_bd (a:=(i:Int)+1) (b:=th) (A:=129) (B:=64) om om;have m5:=mul_bd (a:=(i:Int)) (b:=(colsN w0 h0 tw th)) (A:=128) (B:=128) om om
 refine rE<|pu3<|sMul (j:Int) tw<|pu1<|sAdd (j:Int) 1<|pu1<|sMul ((j:Int)+1) tw<|cR call162 (p16_some d0 e0 f0 (colsV q.v w0 r.x0 r.x1) ((j:Int)*tw) (((j:Int)+1)*tw) (RdT.flat (g0.rdAt 2 (by rfl))) s0.flat) fun _ t0=>pu1<|sB 65 (someV (colsV q.v w0 r.x0 r.x1) ((j:Int)*tw) (((j:Int)+1)*tw)) (fun c0=>?_) (fun c0=>?_)
 rotate_left
 ·refine pu10<|nT<|cFf<|skipE<|bN<|tN<|rE<|sAdd (j:Int) 1<|pu1<|nT ?_
  have hix:=grid_ix (nx:=(colsN w0 h0 tw th)) (i:=(i:Int)) (j:=(j:Int)) om
  have hcast:(((i*nx.toNat+j:Nat):Int))=(i:Int)*(colsN w0 h0 tw th)+(j:Int):=by push_cast;rw [Int.toNat_of_nonneg om,<-hnx]
  have hPv:(fun i=>someV (colsV q.v w0 r.x0 r.x1) (i%(colsN w0 h0 tw th)*tw) ((i%(colsN w0 h0 tw th)+1)*tw)&&someV (rowsV q.v h0 r.y0 r.y1) (i/(colsN w0 h0 tw th)*th) ((i/(colsN w0 h0 tw th)+1)*th)) (((i*nx.toNat+j:Nat):Int))=false:=by rw [hcast];dsimp only;rw [hix.1,hix.2];simp [c0]
  exact ⟨(j+1,zt,azt,nzt,kzt,czt),od,alA,t0,om,(by rw [show i*nx.toNat+(j+1)=i*nx.toNat+j+1 by omega,upto_snoc_filter,if_neg (fun h=>Bool.false_ne_true (hPv.symm.trans h)),<-hE2,List.append_nil]),hOzt⟩
 refine pu3<|gY<|sMul (i:Int) th<|pu1<|gY<|sAdd (i:Int) 1<|pu1<|gY<|sMul ((i:Int)+1) th<|gY<|cR call162 (p16_some i0 j0 k0 (rowsV q.v h0 r.y0 r.y1) ((i:Int)*th) (((i:Int)+1)*th) (RdT.flat (l0.rdAt 1 (by rfl))) t0.flat) fun _ u0=>pu1<|nT<|cB (someV (rowsV q.v h0 r.y0 r.y1) ((i:Int)*th) (((i:Int)+1)*th)) (fun m0=>?_) (fun m0=>?_)
 rotate_left
 ·refine skipE<|bN<|tN<|rE<|sAdd (j:Int) 1<|pu1<|nT ?_
  have hix:=grid_ix (nx:=(colsN w0 h0 tw th)) (i:=(i:Int)) (j:=(j:Int)) om
  have hcast:(((i*nx.toNat+j:Nat):Int))=(i:Int)*(colsN w0 h0 tw th)+(j:Int):=by push_cast;rw [Int.toNat_of_nonneg om,<-hnx]
  have hPv:(fun i=>someV (colsV q.v w0 r.x0 r.x1) (i%(colsN w0 h0 tw th)*tw) ((i%(colsN w0 h0 tw th)+1)*tw)&&someV (rowsV q.v h0 r.y0 r.y1) (i/(colsN w0 h0 tw th)*th) ((i/(colsN w0 h0 tw th)+1)*th)) (((i*nx.toNat+j:Nat):Int))=false:=by rw [hcast];dsimp only;rw [hix.1,hix.2];simp [c0,m0]
  exact ⟨(j+1,zt,azt,nzt,kzt,czt),od,alA,u0,om,(by rw [show i*nx.toNat+(j+1)=i*nx.toNat+j+1 by omega,upto_snoc_filter,if_neg (fun h=>Bool.false_ne_true (hPv.symm.trans h)),<-hE2,List.append_nil]),hOzt⟩
 have hzl:zt.length<=i*nx.toNat+j:=by rw [hE2];exact Nat.le_trans (List.length_filter_le _ _) (by rw [upto_len];exact Nat.le_refl _)
 have hzb:i*nx.toNat<=16384:=by have:=Nat.mul_le_mul (show i<=128 by omega) (show nx.toNat<=128 by omega);omega
 refine rE<|pu3<|sMul (i:Int) (colsN w0 h0 tw th)<|pu1<|sAdd ((i:Int)*(colsN w0 h0 tw th)) (j:Int)<|sBS u0 #[I (((i:Int)*(colsN w0 h0 tw th))+(j:Int))] runUnderlying22 sizeOf3 zeroValue3 fun _ _ q1=>sApp (nb:=8) q1 hOzt 1 (RdT.blk (enc:=Go.E.encI) (sz:=1) (xs:=[(((i:Int)*(colsN w0 h0 tw th))+(j:Int))]) fR 1 0 rfl rfl rfl om) underlying22 (i:=Tryz.t3) kr fR fun r1 s1 t1 _ u1 v1=>pu1<|nB<|rE<|sAdd (j:Int) 1<|pu1<|nT ?_
 have hix:=grid_ix (nx:=(colsN w0 h0 tw th)) (i:=(i:Int)) (j:=(j:Int)) om
 have hcast:(((i*nx.toNat+j:Nat):Int))=(i:Int)*(colsN w0 h0 tw th)+(j:Int):=by push_cast;rw [Int.toNat_of_nonneg om,<-hnx]
 have hPv:(fun i=>someV (colsV q.v w0 r.x0 r.x1) (i%(colsN w0 h0 tw th)*tw) ((i%(colsN w0 h0 tw th)+1)*tw)&&someV (rowsV q.v h0 r.y0 r.y1) (i/(colsN w0 h0 tw th)*th) ((i/(colsN w0 h0 tw th)+1)*th)) (((i*nx.toNat+j:Nat):Int))=true:=by rw [hcast];dsimp only;rw [hix.1,hix.2];simp [c0,m0]
 exact ⟨(j+1,(zt++[(((i:Int)*(colsN w0 h0 tw th))+(j:Int))]),r1,(nzt+1),s1,t1),od,alA,(v1.dropAt 0 rfl),om,(by rw [show i*nx.toNat+(j+1)=i*nx.toNat+j+1 by omega,upto_snoc_filter,if_pos hPv,<-hE2,hcast]),u1⟩
end Go.Proofs.YtdingplbadblpaaGreat

namespace Go.Proofs.YtdingplbadblpaaGreat
open Go Go.E Go.Proofs.Tryz
set_option linter.all false
set_option maxRecDepth 100000
set_option maxHeartbeats 2000000
variable {W w:World} {H:Chunk} {F:List Chunk}
end Go.Proofs.YtdingplbadblpaaGreat
