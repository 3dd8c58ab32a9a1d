import Derived.Laws.IdiomRangeMap
import Derived.Test.YtghcddbhllkbmaaGreatR4P4Graph
namespace Go.Proofs.YtghcddbhllkbmaaGreat
open Go Go.E Go.Proofs.Tryz
set_option linter.all false
set_option maxRecDepth 100000
set_option maxHeartbeats 2000000
variable {W w:World} {H:Chunk} {F:List Chunk}
structure Rct where
  x0:Int
  y0:Int
  x1:Int
  y1:Int
  deriving DecidableEq
def encRct (x:Rct):List Value:=[.int .i64 x.x0, .int .i64 x.y0, .int .i64 x.x1, .int .i64 x.y1]
def Asc (l:List Int):Prop:=l.Pairwise (·<·)
def insU (n:Int):List Int->List Int
  |[]=>[n]
  |x::l=>if n<x then n::x::l else if n=x then x::l else x::insU n l
def canonV (l:List Int):List Int:=l.foldl (fun a n=>insU n a) []
theorem mem_insU {n x:Int}:∀{l:List Int},x∈insU n l↔x=n\/x∈l
  |[]=>by simp [insU]
  |y::l=>by
    simp only [insU]
    split
    · simp
    · split
      · rename_i h;subst h;simp
      · simp only [List.mem_cons,mem_insU (l:=l)];constructor<;>(intro h;rcases h with h|h|h<;>simp [h])
theorem asc_insU {n:Int}:∀{l:List Int},Asc l->Asc (insU n l)
  |[],_=>by simp [insU,Asc]
  |y::l,h=>by
    have h1:=List.pairwise_cons.1 h
    simp only [insU]
    split
    · rename_i hn
      refine List.pairwise_cons.2 ⟨?_,h⟩
      intro z hz
      rcases List.mem_cons.1 hz with rfl|hz
      · exact hn
      · have:=h1.1 z hz;omega
    · split
      · exact h
      · rename_i h2 h3
        refine List.pairwise_cons.2 ⟨?_,asc_insU h1.2⟩
        intro z hz
        rcases mem_insU.1 hz with rfl|hz
        · omega
        · exact h1.1 z hz
theorem asc_ext:∀{a b:List Int},Asc a->Asc b->(∀x,x∈a↔x∈b)->a=b
 |[],[],_,_,_=>rfl
 |[],y::b,_,_,h=>by have:=(h y).2 (by simp);simp at this
 |x::a,[],_,_,h=>by have:=(h x).1 (by simp);simp at this
 |x::a,y::b,ha,hb,h=>by
  have a1:=List.pairwise_cons.1 ha
  have b1:=List.pairwise_cons.1 hb
  have hxy:x=y:=by
   rcases List.mem_cons.1 ((h x).1 (by simp)) with e|e
   ·exact e
   ·rcases List.mem_cons.1 ((h y).2 (by simp)) with e2|e2
    ·exact e2.symm
    ·have:=a1.1 y e2;have:=b1.1 x e;omega
  subst hxy
  rw [asc_ext a1.2 b1.2]
  intro z
  constructor
  ·intro hz
   rcases List.mem_cons.1 ((h z).1 (by simp [hz])) with e|e
   ·have:=a1.1 z hz;omega
   ·exact e
  ·intro hz
   rcases List.mem_cons.1 ((h z).2 (by simp [hz])) with e|e
   ·have:=b1.1 z hz;omega
   ·exact e
theorem insF_asc:∀(l:List Int) {a:List Int},Asc a->Asc (l.foldl (fun a n=>insU n a) a)
  |[],_,h=>h
  |_::l,_,h=>insF_asc l (asc_insU h)
theorem insF_mem {x:Int}:∀(l a:List Int),x∈l.foldl (fun a n=>insU n a) a↔x∈a\/x∈l
  |[],a=>by simp
  |n::l,a=>by
    rw [List.foldl_cons,insF_mem l,mem_insU,or_assoc,or_left_comm,List.mem_cons]
theorem asc_canon (l:List Int):Asc (canonV l):=insF_asc l (by simp [Asc])
theorem mem_canon {x:Int} {l:List Int}:x∈canonV l↔x∈l:=by unfold canonV;rw [insF_mem];simp
theorem canon_app (a b:List Int):canonV (a++b)=b.foldl (fun a n=>insU n a) (canonV a):=by unfold canonV;rw [List.foldl_append]
theorem canon_asc {l:List Int} (h:Asc l):canonV l=l:=asc_ext (asc_canon l) h (fun _=>mem_canon)
theorem insU_split {n:Int}:∀{l:List Int} {m:Nat},Asc l->m<=l.length->(∀x∈l.take m,x<=n)->(∀x∈l.drop m,n<x)->
  insU n l=if 0<m/\l[m-1]?=some n then l else l.take m++n::l.drop m
 |[],m,_,hm,_,_=>by
  have:m=0:=by simpa using hm
  subst this;simp [insU]
 |y::l,0,_,_,_,h2=>by
  have:=h2 y (by simp)
  simp only [insU,if_pos this]
  rw [if_neg om];rfl
 |y::l,m+1,h,hm,h1,h2=>by
  have a1:=List.pairwise_cons.1 h
  have hy:=h1 y (by simp)
  simp only [List.length_cons] at hm
  simp only [insU]
  rw [if_neg om]
  have ih:=insU_split (n:=n) (l:=l) (m:=m) a1.2 om (fun x hx=>h1 x (by simp [hx])) (fun x hx=>h2 x (by simpa using hx))
  cases m with
  |zero=>
   by_cases e:n=y
   ·subst e;rw [if_pos rfl,if_pos ⟨om,by simp⟩]
   ·rw [if_neg e,ih,if_neg om,if_neg (by intro h3;have:=h3.2;simp at this;omega)];simp
  |succ m=>
   have hne:¬n=y:=(by intro e;subst e;have hx:l[0]?=some l[0]:=List.getElem?_eq_getElem om;have h3:=a1.1 l[0] (List.mem_of_getElem? hx);have h4:=h1 l[0] (by rw [List.take_succ_cons];exact List.mem_cons_of_mem _ (List.mem_of_getElem? (i:=0) (by rw [List.getElem?_take];simp [hx])));omega)
   rw [if_neg hne,ih]
   by_cases e:l[m+1-1]?=some n
   ·rw [if_pos ⟨om,e⟩,if_pos ⟨om,by simpa using e⟩]
   ·rw [if_neg (fun h=>e h.2),if_neg (fun h=>e (by simpa using h.2))];simp
def uptoV (n:Nat):List Int:=(List.range n).map fun (i:Nat)=>(i:Int)
theorem upto_succ (n:Nat):uptoV (n+1)=uptoV n++[(n:Int)]:=by unfold uptoV;rw [List.range_succ,List.map_append];rfl
theorem upto_len (n:Nat):(uptoV n).length=n:=by simp [uptoV]
theorem mem_upto {n:Nat} {x:Int}:x∈uptoV n↔0<=x/\x<n:=by
  unfold uptoV
  simp only [List.mem_map,List.mem_range]
  constructor
  · rintro ⟨i,hi,rfl⟩;omega
  · intro h;exact ⟨x.toNat,by omega,by omega⟩
theorem upto_snoc_filter (n:Nat) (p:Int->Bool):(uptoV (n+1)).filter p=(uptoV n).filter p++(if p n=true then [(n:Int)] else []):=by
  rw [upto_succ,List.filter_append]
  congr 1
  cases h:p n<;>simp [List.filter,h]
theorem upto_map_snoc {α:Type} (n:Nat) (f:Int->α):(uptoV (n+1)).map f=(uptoV n).map f++[f n]:=by rw [upto_succ,List.map_append];rfl
def ceilV (a b:Int):Int:=if 0<=a/\1<=b then (if a%b=0 then a/b else a/b+1) else 0
def fineP (w h tw th:Int):Prop:=(1<=w/\w<=128)/\(1<=h/\h<=128)/\(1<=tw/\tw<=64)/\1<=th/\th<=64
instance (w h tw th:Int):Decidable (fineP w h tw th):=by unfold fineP;infer_instance
def colsN (w h tw th:Int):Int:=if fineP w h tw th then ceilV w tw else 0
def rowsN (w h tw th:Int):Int:=if fineP w h tw th then ceilV h th else 0
def tileV (w h tw th i:Int):Rct:=⟨i%colsN w h tw th*tw,i/colsN w h tw th*th,min (i%colsN w h tw th*tw+tw) w,min (i/colsN w h tw th*th+th) h⟩
def tilN (w h tw th:Int):Nat:=(colsN w h tw th*rowsN w h tw th).toNat
def idxV (i n p:Int):Option Int:=
  if 1<=n/\n<=128 then
    (if p=0 then some (min (max i 0) (n-1))
    else if p=1 then some (if n<=i%(2*n) then 2*n-1-i%(2*n) else i%(2*n))
    else if p=2 then some (i%n)
    else if p=3/\0<=i/\i<n then some i else none)
  else none
def kerP (n:Int):Prop:=1<=n/\n<=9
instance (n:Int):Decidable (kerP n):=by unfold kerP;infer_instance
def tapP (t:TapV):Bool:=decide (t.weights.length<=8/\-128<=t.first/\t.first<=256)
def accV (s:StageV):Prop:=fieldsP s/\(s.kind=1->kerP s.kW/\kerP s.kH)/\(s.kind=2->kerP s.row.length/\kerP s.col.length)/\(s.kind=3->s.x.all tapP=true/\s.y.all tapP=true)
instance (s:StageV):Decidable (accV s):=by unfold accV;infer_instance
def winF (kd k size:Int) (t:List TapV):Int:=if kd=1\/kd=2 then k-size/2 else if kd=3 then (match t[k.toNat]? with|some x=>x.first|none=>0) else k
def winC (kd k size:Int) (t:List TapV):Int:=if kd=1\/kd=2 then size else if kd=3 then (match t[k.toNat]? with|some x=>(x.weights.length:Int)|none=>0) else 1
def polV (s:StageV):Int:=if 3<s.kind then 3 else s.edgePolicy
def hitB (s:StageV) (n k size:Int) (t:List TapV) (m:Int):Bool:=(List.range (winC s.kind k size t).toNat).any fun j=>decide (idxV (winF s.kind k size t+j) n (polV s)=some m)
def needB (s:StageV) (n a b size:Int) (t:List TapV) (m:Int):Bool:=(List.range (b-a).toNat).any fun j=>hitB s n (a+j) size t m
def szOK (s:StageV) (sz:Int) (t:List TapV):Prop:=accV s->(¬(s.kind=1\/s.kind=2)\/(1<=sz/\sz<=9))/\(s.kind=3->t.all tapP=true)
def hitsV (s:StageV) (n a size:Int) (t:List TapV) (i:Nat) (m:Int):Bool:=(List.range i).any fun j=>hitB s n (a+j) size t m
def lenP (n a b:Int):Prop:=(1<=n/\n<=128)/\(0<=a/\a<=128)/\0<=b/\b<=128
instance (n a b:Int):Decidable (lenP n a b):=by unfold lenP;infer_instance
def needV (s:StageV) (n a b size:Int) (t:List TapV):List Int:=if lenP n a b/\accV s then (uptoV n.toNat).filter (needB s n a b size t) else []
def colsV (s:StageV) (w a b:Int):List Int:=needV s w a b (if s.kind=2 then s.row.length else s.kW) s.x
def rowsV (s:StageV) (h a b:Int):List Int:=needV s h a b (if s.kind=2 then s.col.length else s.kH) s.y
def someV (l:List Int) (a b:Int):Bool:=l.any fun v=>decide (a<=v/\v<b)
def tilesV (s:StageV) (w h tw th:Int) (r:Rct):List Int:=
  (uptoV (tilN w h tw th)).filter fun i=>someV (colsV s w r.x0 r.x1) (i%colsN w h tw th*tw) ((i%colsN w h tw th+1)*tw)&&someV (rowsV s h r.y0 r.y1) (i/colsN w h tw th*th) ((i/colsN w h tw th+1)*th)
def belongP (kind part:Int):Prop:=(kind=4/\(part=1\/part=2))\/(¬kind=4/\part=0)
instance (k p:Int):Decidable (belongP k p):=by unfold belongP;infer_instance
def cellsV (s:StageV) (h:Int) (r:Rct):Int:=
  if s.kind=1 then (r.x1-r.x0+s.kW-1)*(r.y1-r.y0+s.kH-1)
  else if s.kind=2 then (r.x1-r.x0)*(r.y1-r.y0+s.col.length-1)
  else if s.kind=3 then (r.x1-r.x0)*(rowsV s h r.y0 r.y1).length
  else if s.kind=4 then s.bins
  else if s.kind=5 then r.x1-r.x0+(r.y1-r.y0)+1
  else r.x1-r.x0
def alnV (n:Int):Int:=(n+15)/16*16
def bytV (s:StageV) (h:Int) (r:Rct):Int:=alnV (8*cellsV s h r)
def inP (r:Rct):Prop:=0<=r.x0/\r.x0<r.x1/\r.x1<=128/\0<=r.y0/\r.y0<r.y1/\r.y1<=128
instance (r:Rct):Decidable (inP r):=by unfold inP;infer_instance
def scrV (s:StageV) (m:Shape) (part:Int) (r:Rct):Int:=if (ofV s m m).2=0/\belongP s.kind part/\inP r then bytV s m.h r else 0
structure Lay where
  ni:Int
  ss:List StageV
  sh:List Shape
  od:List Int
  tw:Int
  th:Int
def Lay.st (L:Lay) (n:Int):StageV:=stgAt L.ss L.ni n
def Lay.cut (L:Lay) (n:Int):Shape:=if (L.st n).kind=4 then shpAt L.sh (L.st n).a else shpAt L.sh n
def Lay.nx (L:Lay) (n:Int):Int:=colsN (L.cut n).w (L.cut n).h L.tw L.th
def Lay.ny (L:Lay) (n:Int):Int:=rowsN (L.cut n).w (L.cut n).h L.tw L.th
def Lay.cnt (L:Lay) (n:Int):Int:=if (L.st n).kind=4 then L.nx n*L.ny n+1 else L.nx n*L.ny n
def firstG (f:Int->Int):List Int->Int->Int
  |[],_=>0
  |x::l,n=>if x=n then 0 else f x+firstG f l n
def Lay.first (L:Lay) (n:Int):Int:=firstG L.cnt L.od n
def Lay.total (L:Lay):Int:=(L.od.map L.cnt).sum
def Lay.srcDeps (L:Lay) (s:StageV) (r:Rct) (x:Int):List Int:=
  if x<L.ni then [] else if s.barrier=true then (uptoV (L.cnt x).toNat).map (L.first x+·)
  else if (L.st x).kind=4 then [L.first x+L.cnt x-1]
  else (tilesV s (shpAt L.sh x).w (shpAt L.sh x).h L.tw L.th r).map (L.first x+·)
def Lay.needs (L:Lay) (s:StageV) (r:Rct):List Int:=(srcs s).flatMap (L.srcDeps s r)
def Lay.own (L:Lay) (n i:Int):List Int:=if (L.st n).kind=5 then (if 0<i%L.nx n then [L.first n+i-1] else [])++(if L.nx n<=i then [L.first n+i-L.nx n] else []) else []
def Lay.task (L:Lay) (n part:Int) (r:Rct) (deps:List Int):TaskV:=
  ⟨n,part,r.x0,r.y0,r.x1,r.y1,canonV deps,if part=2 then 1 else r.y1-r.y0,bytV (L.st n) (shpAt L.sh (L.st n).a).h r⟩
def Lay.part (L:Lay) (n:Int):Int:=if (L.st n).kind=4 then 1 else 0
def Lay.tile (L:Lay) (n i:Int):Rct:=tileV (L.cut n).w (L.cut n).h L.tw L.th i
def Lay.tileT (L:Lay) (n i:Int):TaskV:=L.task n (L.part n) (L.tile n i) (L.needs (L.st n) (L.tile n i)++L.own n i)
def Lay.mergeT (L:Lay) (n:Int):TaskV:=L.task n 2 ⟨0,0,(L.st n).bins,1⟩ ((uptoV (L.nx n*L.ny n).toNat).map (L.first n+·))
def Lay.tasks (L:Lay) (n:Int):List TaskV:=(uptoV (L.nx n*L.ny n).toNat).map (L.tileT n)++(if (L.st n).kind=4 then [L.mergeT n] else [])
def Lay.all (L:Lay):List TaskV:=L.od.flatMap L.tasks
def layV (j:JobV) (tw th:Int):Lay:=⟨j.inputs.length,j.stages,(shpV j).1,(ordV j).1,tw,th⟩
def tileP (tw th:Int):Prop:=(1<=tw/\tw<=64)/\1<=th/\th<=64
instance (tw th:Int):Decidable (tileP tw th):=by unfold tileP;infer_instance
def lowC (j:JobV) (tw th:Int):Int:=if (shpV j).2.2=0 then (if tileP tw th then (if (layV j tw th).total<=4096 then 0 else 13) else 2) else (shpV j).2.2
def lowV (j:JobV) (tw th:Int):List TaskV:=if lowC j tw th=0 then (layV j tw th).all else []
def Lay.cells (L:Lay):Int:=(L.sh.map fun m=>m.w*m.h).sum+(L.od.map fun n=>if (L.st n).kind=4 then (L.st n).bins*(L.cnt n-1) else 0).sum
theorem ceil_bd {a b:Int} (ha:1<=a/\a<=128) (hb:1<=b):1<=ceilV a b/\ceilV a b<=128:=by
 unfold ceilV
 rw [if_pos ⟨om,hb⟩]
 have h1:=Int.mul_ediv_add_emod a b
 have h2:=Int.emod_nonneg a (by omega:b≠0)
 have h3:=Int.emod_lt_of_pos a (by omega:0<b)
 have h4:a/b<=a:=Int.ediv_le_self _ om
 have h5:0<=a/b:=Int.ediv_nonneg om om
 split
 · exact (by have:a/b≠0:=fun h=>(by rw [h,Int.mul_zero] at h1;omega);omega)
 ·have h6:a/b<128:=by
   by_cases h:a/b=128
   ·have a0:b=1:=by
     by_cases a0:b=1
     ·exact a0
     ·have:=Int.mul_le_mul_of_nonneg_right (show (2:Int)<=b by omega) h5;omega
    subst a0;simp at*
   ·omega
  omega
theorem cols_bd {w h tw th:Int} (hf:fineP w h tw th):(1<=colsN w h tw th/\colsN w h tw th<=128)/\1<=rowsN w h tw th/\rowsN w h tw th<=128:=by
  unfold colsN rowsN
  rw [if_pos hf,if_pos hf]
  exact ⟨ceil_bd hf.1 hf.2.2.1.1,ceil_bd hf.2.1 hf.2.2.2.1⟩
theorem cols_no {w h tw th:Int} (hf:¬fineP w h tw th):colsN w h tw th=0/\rowsN w h tw th=0:=by
  unfold colsN rowsN
  rw [if_neg hf,if_neg hf];exact ⟨rfl,rfl⟩
theorem ceil_lt {a b i:Int} (ha:0<=a) (hb:1<=b) (hi:0<=i) (h:i<ceilV a b):i*b<a:=by
  unfold ceilV at h
  rw [if_pos ⟨ha,hb⟩] at h
  have h1:=Int.mul_ediv_add_emod a b
  have h2:=Int.emod_nonneg a (by omega:b≠0)
  split at h
  · exact (by have:=Int.mul_le_mul_of_nonneg_right (show i+1<=a/b by omega) (show 0<=b by omega);rw [Int.add_mul,Int.one_mul,Int.mul_comm (a/b) b] at this;omega)
  · exact (by have:=Int.mul_le_mul_of_nonneg_right (show i<=a/b by omega) (show 0<=b by omega);rw [Int.mul_comm (a/b) b] at this;omega)
theorem ceil_ge {a b:Int} (ha:0<=a) (hb:1<=b):a<=ceilV a b*b:=by
  unfold ceilV
  rw [if_pos ⟨ha,hb⟩]
  have h1:=Int.mul_ediv_add_emod a b
  have h3:=Int.emod_lt_of_pos a (by omega:0<b)
  split
  · rw [Int.mul_comm (a/b) b];omega
  · rw [Int.add_mul,Int.one_mul,Int.mul_comm (a/b) b];omega
theorem tile_ix {i nx ny:Int} (hn:1<=nx) (hi:0<=i) (h:i<nx*ny):(0<=i%nx/\i%nx<nx)/\0<=i/nx/\i/nx<ny/\i=i/nx*nx+i%nx:=by
  have h1:=Int.mul_ediv_add_emod i nx
  exact ⟨⟨(Int.emod_nonneg i (by omega:nx≠0)),(Int.emod_lt_of_pos i (by omega:0<nx))⟩,Int.ediv_nonneg hi (by omega),(Int.ediv_lt_of_lt_mul (by omega) (by rw [Int.mul_comm];exact h)),by rw [Int.mul_comm];omega⟩
theorem tile_in {w h tw th i:Int} (hf:fineP w h tw th) (hi:0<=i) (hl:i<colsN w h tw th*rowsN w h tw th):inP (tileV w h tw th i)/\(tileV w h tw th i).x1<=w/\(tileV w h tw th i).y1<=h/\(tileV w h tw th i).x1-(tileV w h tw th i).x0<=64/\(tileV w h tw th i).y1-(tileV w h tw th i).y0<=64:=by
 have hb:=cols_bd hf
 obtain ⟨⟨a1,a2⟩,a3,a4,a5⟩:=tile_ix hb.1.1 hi hl
 obtain ⟨⟨f1,f2⟩,⟨f3,f4⟩,⟨f5,f6⟩,f7,f8⟩:=hf
 have hf:fineP w h tw th:=⟨⟨f1,f2⟩,⟨f3,f4⟩,⟨f5,f6⟩,f7,f8⟩
 have hx:i%colsN w h tw th*tw<w:=ceil_lt om f5 a1 ((show colsN w h tw th=ceilV w tw from by unfold colsN;rw [if_pos hf])▸a2)
 have hy:i/colsN w h tw th*th<h:=ceil_lt om f7 a3 ((show rowsN w h tw th=ceilV h th from by unfold rowsN;rw [if_pos hf])▸a4)
 have a0:0<=i%colsN w h tw th*tw:=Int.mul_nonneg a1 om
 have b0:0<=i/colsN w h tw th*th:=Int.mul_nonneg a3 om
 unfold inP tileV
 dsimp only
 omega
theorem mod_emod {i n:Int} (hn:0<n):(if i.tmod n<0 then i.tmod n+n else i.tmod n)=i%n:=by
  have h1:=Int.tmod_lt_of_pos i hn
  have h2:=Int.lt_tmod_of_pos i hn
  have e:i%n=i.tmod n%n:=by
    have h:=Int.tmod_add_mul_tdiv i n
    calc i%n=(i.tmod n+n*i.tdiv n)%n:=by rw [h]
      _=i.tmod n%n:=by rw [Int.add_mul_emod_self_left]
  rw [e]
  split
  · rw [<-Int.add_emod_right,Int.emod_eq_of_lt (by omega) (by omega)]
  · rw [Int.emod_eq_of_lt (by omega) (by omega)]
theorem idx_bd {i n p c:Int} (h:idxV i n p=some c):0<=c/\c<n:=by
  unfold idxV at h
  split at h
  · rename_i hn
    have h1:=Int.emod_nonneg i (by omega:n≠0)
    have h2:=Int.emod_lt_of_pos i (by omega:0<n)
    have h3:=Int.emod_nonneg i (by omega:2*n≠0)
    have h4:=Int.emod_lt_of_pos i (by omega:0<2*n)
    repeat' split at h
    all_goals first
      |(simp only [Option.some.injEq] at h;omega)
      |cases h
  · cases h
theorem win_bd {kd k size:Int} {t:List TapV} (hs:¬(kd=1\/kd=2)\/(1<=size/\size<=9)) (ht:kd=3->t.all tapP=true) (hk:0<=k/\k<=1000):(-200<=winF kd k size t/\winF kd k size t<=1000)/\0<=winC kd k size t/\winC kd k size t<=9:=by
  unfold winF winC
  split
  · rename_i h;omega
  · split
    · rename_i h3
      have h:=ht h3
      cases hx:t[k.toNat]? with
      |none=>simp
      |some x=>
        have:=List.all_eq_true.1 h x (List.mem_of_getElem? hx)
        unfold tapP at this
        have:=of_decide_eq_true this
        dsimp only;omega
    · omega
def MkB (N:Nat) (ks:List Bool) (f:Int->Bool):Prop:=ks.length=N/\∀m:Nat,m<N->ks[m]?=some (f m)
theorem MkB.zero {N:Nat} {f:Int->Bool} (hf:∀m,f m=false):MkB N (List.replicate N false) f:=by
  refine ⟨by simp,fun m hm=>?_⟩
  rw [List.getElem?_replicate,if_pos hm,hf]
theorem MkB.at {N:Nat} {ks:List Bool} {f:Int->Bool} {m:Nat} {x:Bool} (h:MkB N ks f) (hx:ks[m]?=some x):x=f m:=by
  have hm:=(List.getElem?_eq_some_iff.1 hx).1
  have:=h.2 m (by rw [<-h.1];exact hm)
  rw [hx] at this;exact Option.some.inj this
theorem MkB.congr {N:Nat} {ks:List Bool} {f g:Int->Bool} (h:MkB N ks f) (e:∀m:Int,f m=g m):MkB N ks g:=⟨h.1,fun m hm=>by rw [h.2 m hm,e]⟩
theorem MkB.set {N:Nat} {ks:List Bool} {f g:Int->Bool} {c:Int} (h:MkB N ks f) (hc:0<=c/\c<N) (e:∀m:Int,g m=(f m||decide (c=m))):MkB N (ks.set c.toNat true) g:=by
  refine ⟨by rw [List.length_set];exact h.1,fun m hm=>?_⟩
  rw [e,List.getElem?_set]
  split
  · exact (by rename_i hcm;rw [if_pos (by rw [h.1];omega),decide_eq_true (show c=(m:Int) by omega),Bool.or_true])
  · rw [h.2 m hm,decide_eq_false (show ¬c=(m:Int) by omega),Bool.or_false]
theorem any_range_succ (k:Nat) (f:Nat->Bool):(List.range (k+1)).any f=((List.range k).any f||f k):=by rw [List.range_succ,List.any_append];simp
theorem MkB.one {N:Nat} {ks:List Bool} {A:Int->Bool} {s:StageV} {n:Int} {k:Nat} {F:Int} {c:Int} (h:MkB N ks (fun m=>A m||(List.range k).any fun j=>decide (idxV (F+j) n (polV s)=some m))) (he:idxV (F+k) n (polV s)=some c) (hc:0<=c/\c<N):
    MkB N (ks.set c.toNat true) (fun m=>A m||(List.range (k+1)).any fun j=>decide (idxV (F+j) n (polV s)=some m)):=by
  exact h.set hc (fun m=>(by rw [any_range_succ,he,<-Bool.or_assoc];congr 1;exact decide_eq_decide.2 ⟨fun h=>Option.some.inj h,fun h=>by rw [h]⟩))
theorem MkB.none {N:Nat} {ks:List Bool} {A:Int->Bool} {s:StageV} {n:Int} {k:Nat} {F:Int} (h:MkB N ks (fun m=>A m||(List.range k).any fun j=>decide (idxV (F+j) n (polV s)=some m))) (he:idxV (F+k) n (polV s)=none):
    MkB N ks (fun m=>A m||(List.range (k+1)).any fun j=>decide (idxV (F+j) n (polV s)=some m)):=by
  exact h.congr (fun m=>(by rw [any_range_succ,he];simp))
theorem hit_bd {s:StageV} {n k size m:Int} {t:List TapV} (h:hitB s n k size t m=true):0<=m/\m<n:=by
  unfold hitB at h
  obtain ⟨j,_,hj⟩:=List.any_eq_true.1 h
  exact idx_bd (of_decide_eq_true hj)
theorem need_bd {s:StageV} {n a b size m:Int} {t:List TapV} (h:needB s n a b size t m=true):0<=m/\m<n:=by
  unfold needB at h
  obtain ⟨j,_,hj⟩:=List.any_eq_true.1 h
  exact hit_bd hj
theorem need_mem {s:StageV} {n a b size x:Int} {t:List TapV} (h:x∈needV s n a b size t):0<=x/\x<n:=by
  unfold needV at h
  split at h
  · exact need_bd (List.mem_filter.1 h).2
  · cases h
theorem need_len {s:StageV} {n a b size:Int} {t:List TapV}:(needV s n a b size t).length<=128:=by
  unfold needV
  split
  · exact (by rename_i h;exact Nat.le_trans (List.length_filter_le _ _) (by rw [upto_len];have:=h.1.1;omega))
  · simp
theorem szOK_cols (s:StageV):szOK s (if s.kind=2 then s.row.length else s.kW) s.x:=by
  intro h
  refine ⟨?_,fun h3=>(h.2.2.2 h3).1⟩
  by_cases h1:s.kind=1
  · have:=(h.2.1 h1).1;unfold kerP at this;rw [if_neg (by omega)];omega
  · by_cases h2:s.kind=2
    · have:=(h.2.2.1 h2).1;unfold kerP at this;rw [if_pos h2];omega
    · omega
theorem szOK_rows (s:StageV):szOK s (if s.kind=2 then s.col.length else s.kH) s.y:=by
  intro h
  refine ⟨?_,fun h3=>(h.2.2.2 h3).2⟩
  by_cases h1:s.kind=1
  · have:=(h.2.1 h1).2;unfold kerP at this;rw [if_neg (by omega)];omega
  · by_cases h2:s.kind=2
    · have:=(h.2.2.1 h2).2;unfold kerP at this;rw [if_pos h2];omega
    · omega
theorem hits_succ {s:StageV} {n a size c:Int} {t:List TapV} {i:Nat} {m:Int} {k:Nat} (hc:c=a+i) (hk:(winC s.kind c size t).toNat=k):
    hitsV s n a size t (i+1) m=(hitsV s n a size t i m||(List.range k).any fun j=>decide (idxV (winF s.kind c size t+j) n (polV s)=some m)):=by
  subst hc;subst hk
  unfold hitsV
  rw [any_range_succ];rfl
theorem any_of_at {α:Type} {p:α->Bool} {l:List α} {i:Nat} {x:α} (hx:l[i]?=some x) (h:p x=true):l.any p=true:=List.any_eq_true.2 ⟨x,List.mem_of_getElem? hx,h⟩
theorem any_take_no {α:Type} {p:α->Bool} {l:List α} {i:Nat} {x:α} (h:(l.take i).any p=false) (hx:l[i]?=some x) (hp:p x=false):(l.take (i+1)).any p=false:=by
  rw [List.take_add_one,hx,Option.toList_some,List.any_append,h];simp [hp]
theorem some_min {l:List Int} {a b n:Int} (h:∀x∈l,x<n):someV l a (min b n)=someV l a b:=by
  unfold someV
  rw [Bool.eq_iff_iff]
  simp only [List.any_eq_true,decide_eq_true_eq]
  constructor
  · rintro ⟨x,hx,h1⟩;exact ⟨x,hx,by omega⟩
  · rintro ⟨x,hx,h1⟩;have:=h x hx;exact ⟨x,hx,by omega⟩
theorem grid_ix {nx i j:Int} (hj:0<=j/\j<nx):(i*nx+j)%nx=j/\(i*nx+j)/nx=i:=by
  have hx:0<nx:=by omega
  refine ⟨?_,?_⟩
  · rw [Int.add_comm,Int.add_mul_emod_self_right,Int.emod_eq_of_lt hj.1 hj.2]
  · rw [Int.add_comm,Int.add_mul_ediv_right _ _ (by omega),Int.ediv_eq_zero_of_lt hj.1 hj.2,Int.zero_add]
theorem acc0 {s:StageV} (h:fieldsP s) (h1:¬s.kind=1) (h2:¬s.kind=2) (h3:¬s.kind=3):accV s:=⟨h,fun e=>absurd e h1,fun e=>absurd e h2,fun e=>absurd e h3⟩
theorem acc1 {s:StageV} (h:fieldsP s) (h1:s.kind=1):accV s↔kerP s.kW/\kerP s.kH:=⟨fun a=>a.2.1 h1,fun b=>⟨h,fun _=>b,fun e=>by omega,fun e=>by omega⟩⟩
theorem acc2 {s:StageV} (h:fieldsP s) (h1:s.kind=2):accV s↔kerP s.row.length/\kerP s.col.length:=⟨fun a=>a.2.2.1 h1,fun b=>⟨h,fun e=>by omega,fun _=>b,fun e=>by omega⟩⟩
theorem acc3 {s:StageV} (h:fieldsP s) (h1:s.kind=3):accV s↔s.x.all tapP=true/\s.y.all tapP=true:=⟨fun a=>a.2.2.2 h1,fun b=>⟨h,fun e=>by omega,fun e=>by omega,fun _=>b⟩⟩
theorem acc_kind {s:StageV} (h:accV s):1<=s.kind/\s.kind<=6:=by
  have h1:=h.1
  unfold fieldsP at h1
  omega
def alnOK (n k l:Int):Bool:=if 0<=n/\1<=k then mulOK (ceilV n k) k l else false
def alnX (n k l:Int):Int:=if 0<=n/\1<=k then mulV (ceilV n k) k l else 0
theorem aln_ok {n l:Int} (h0:0<=n) (h:n+15<=l):alnX n 16 l=alnV n:=by
  have e:ceilV n 16*16=alnV n:=by
    unfold ceilV alnV
    rw [if_pos ⟨h0,by decide⟩]
    split<;>omega
  unfold alnX mulV mulOK
  rw [if_pos ⟨h0,by decide⟩,if_pos,e]
  refine decide_eq_true ⟨?_,by decide,by omega,?_⟩
  · unfold ceilV;rw [if_pos ⟨h0,by decide⟩];split<;>omega
  · rw [e];unfold alnV;omega
def cooP (n:Int):Prop:=-1048576<=n/\n<=1048576
instance (n:Int):Decidable (cooP n):=by unfold cooP;infer_instance
def rvP (r:Rct):Prop:=(r.x0=0/\r.y0=0/\r.x1=0/\r.y1=0)\/(cooP r.x0/\cooP r.y0/\cooP r.x1/\cooP r.y1/\r.x0<r.x1/\r.y0<r.y1)
instance (r:Rct):Decidable (rvP r):=by unfold rvP;infer_instance
theorem eqve45 (w:World) (a0 a1 a2 a3 b0 b1 b2 b3:Int):∀x y,((do eqGuard .eql 45 x y (.agg #[.int .i64 a0, .int .i64 a1, .int .i64 a2, .int .i64 a3]) (.agg #[.int .i64 b0, .int .i64 b1, .int .i64 b2, .int .i64 b3]);binOp .eql 45 (.agg #[.int .i64 a0, .int .i64 a1, .int .i64 a2, .int .i64 a3]) (.agg #[.int .i64 b0, .int .i64 b1, .int .i64 b2, .int .i64 b3])):Sem Value).run prog w= .ok (.bool ((a0==b0)&&(a1==b1)&&(a2==b2)&&(a3==b3))) w:=by
  intro x y
  simp [go_sem,run_eqGuard_agg,run_eql_struct,run_equalIn_agg]
  by_cases h0:a0=b0<;>by_cases h1:a1=b1<;>by_cases h2:a2=b2<;>by_cases h3:a3=b3<;>simp [*]
theorem p2_coord (n:Int) (hS:Sat W w (H::F)):
  Ro prog 140 #[I n] (.bool (decide (-(1048576:Int)<=n/\n<=1048576))) W w (H::F):=by
 exact callsK 9 func140 rfl<|jCO 10 rfl<|SD 5 (-1048576<=n) (fun a0=>jOR 7 rfl<|retT [.bool false]<|⟨rB bq,hS⟩) fun a0=>jOR 7 rfl<|retT [.bool (decide ((n:Int)<=1048576))]<|⟨rB bq,hS⟩
theorem p2_empty (r:Rct) (hS:Sat W w (H::F)):
  Ro prog 53 #[.agg (encRct r).toArray] (.bool (decide (r.x0=0/\r.y0=0/\r.x1=0/\r.y1=0))) W w (H::F):=by
 exact callsK 6 func53 rfl<|jCO 2 rfl<|sBx hS (encRct r) fun _ _ a0=>gOO a0 7 [400] rfl<|stepY (.bool (((r.x0:Int)==0)&&((r.y0:Int)==0)&&((r.x1:Int)==0)&&((r.y1:Int)==0))) rfl rfl (Y_eqS rfl kr kr (eqve45 _ r.x0 r.y0 r.x1 r.y1 0 0 0 0))<|jOR 4 rfl<|retT [.bool (((r.x0:Int)==0)&&((r.y0:Int)==0)&&((r.x1:Int)==0)&&((r.y1:Int)==0))]<|⟨rB bq,(a0.dropAt 0 rfl)⟩
theorem p2_valid (r:Rct) (hS:Sat W w (H::F)):
  Ro prog 95 #[.agg (encRct r).toArray] (.bool (decide (rvP r))) W w (H::F):=by
 refine callsK 37 func95 rfl<|jCO 2 rfl<|sBx hS (encRct r) fun _ _ f0=>gOO f0 7 [400] rfl<|cS (p2_empty r f0.flat) fun _ b0=>jOC 2 rfl<|cD (r.x0=0/\r.y0=0/\r.x1=0/\r.y1=0) (fun g0=>jCR 7 rfl<|retT [.bool true]<|⟨rB (by unfold rvP cooP;exact bq),(b0.dropAt 0 rfl)⟩) fun g0=>gCO b0 6 [0] rfl<|cS (p2_coord r.x0 b0.flat) fun _ c0=>pu1<|SD 8 (-(1048576:Int)<=r.x0/\r.x0<=1048576) (fun i0=>jOR 32 rfl<|retT [.bool false]<|⟨rB (by unfold rvP cooP;exact bq),(c0.dropAt 0 rfl)⟩) fun i0=>gOO c0 2 [0] rfl<|gY<|cS (p2_coord r.y0 c0.flat) fun _ d0=>pu2<|SD 13 (-(1048576:Int)<=r.y0/\r.y0<=1048576) (fun k0=>jOR 27 rfl<|retT [.bool false]<|⟨rB (by unfold rvP cooP;exact bq),(d0.dropAt 0 rfl)⟩) fun k0=>?_
 exact gOO d0 2 [0] rfl<|gY<|cS (p2_coord r.x1 d0.flat) fun _ e0=>pu2<|SD 18 (-(1048576:Int)<=r.x1/\r.x1<=1048576) (fun m0=>jOR 22 rfl<|retT [.bool false]<|⟨rB (by unfold rvP cooP;exact bq),(e0.dropAt 0 rfl)⟩) fun m0=>gOO e0 2 [0] rfl<|gY<|cS (p2_coord r.y1 e0.flat) fun _ a0=>pu2<|SD 23 (-(1048576:Int)<=r.y1/\r.y1<=1048576) (fun o0=>jOR 17 rfl<|retT [.bool false]<|⟨rB (by unfold rvP cooP;exact bq),(a0.dropAt 0 rfl)⟩) fun o0=>gOO a0 7 [0,0] rfl<|SD 30 (r.x0<r.x1) (fun q0=>jOR 10 rfl<|retT [.bool false]<|⟨rB (by unfold rvP cooP;exact bq),(a0.dropAt 0 rfl)⟩) fun q0=>gOR a0 10 [0,0] rfl<|retT [.bool (decide (r.y0<r.y1))]<|⟨rB (by unfold rvP cooP;exact bq),(a0.dropAt 0 rfl)⟩
theorem p3_mod (i:Int) (n:Int) (hn:1<=n/\n<=4611686018427387904) (hS:Sat W w (H::F)):
  Ro prog 187 #[I i,I n] (I (i%n)) W w (H::F):=by
 have b0:=Int.tmod_lt_of_pos i (by omega:0<n);have c0:=Int.lt_tmod_of_pos i (by omega:0<n)
 exact callsK 15 func187 rfl<|jCO 9 rfl<|sRem i n<|jOC 10 rfl<|CD ((i.tmod n)<0) (fun a0=>jCR 9 rfl<|retT [I (i.tmod n)]<|(by have hk:=mod_emod (i:=i) (n:=n) om;rw [if_neg om] at hk;exact ⟨by rw [<-hk];rfl,hS⟩)) fun a0=>jCO 3 rfl<|sAdd (i.tmod n) n<|jOR 10 rfl<|retT [I ((i.tmod n)+n)]<|(by have hk:=mod_emod (i:=i) (n:=n) om;rw [if_pos om] at hk;exact ⟨by rw [<-hk];rfl,hS⟩)
theorem p3_index (i:Int) (n:Int) (p:Int) (hS:Sat W w (H::F)):
  Ro prog 161 #[I i,I n,I p] (.tuple #[I ((idxV i n p).getD 0), .bool ((idxV i n p).isSome)]) W w (H::F):=by
 refine callsK 53 func161 rfl<|jCO 12 rfl<|sD 11 (n<1) (fun b0=>jOR 14 rfl<|retT [I 0, .bool false]<|(by have hk:idxV i n p=none:=(by unfold idxV;(repeat' split)<;>first|rfl|(exfalso;omega));exact ⟨by rw [hk];rfl,hS⟩)) fun b0=>jOC 5 rfl<|cD (n>128) (fun c0=>jCR 8 rfl<|retT [I 0, .bool false]<|(by have hk:idxV i n p=none:=(by unfold idxV;(repeat' split)<;>first|rfl|(exfalso;omega));exact ⟨by rw [hk];rfl,hS⟩)) fun c0=>jCC 15 rfl<|cE p 0 (fun d0=>jCO 3 rfl<|stepY (I (max i 0)) rfl rfl (Y_max2 i 0 rfl rfl kr kr)<|pu1<|sSub n 1<|stepY (I (min (max i 0) (n-1))) rfl rfl (Y_min2 (max i 0) (n-1) rfl rfl kr kr)<|jOR 7 rfl<|retT [I (min (max i 0) (n-1)), .bool true]<|(by have hk:idxV i n p=some (min (max i 0) (n-1)):=(by unfold idxV;(repeat' split)<;>first|rfl|(exfalso;omega)|(congr 1;omega));exact ⟨by rw [hk];rfl,hS⟩)) fun d0=>jCC 6 rfl<|cE p 1 (fun e0=>jCO 4 rfl<|sMul 2 n<|cS (p3_mod i (2*n) (od) hS.flat) fun _ a0=>(by have l0:=Int.emod_nonneg i (by omega:((2*n):Int)≠0);have m0:=Int.emod_lt_of_pos i (by omega:(0:Int)<(2*n));refine jOC 11 rfl<|CD ((i%(2*n))>=n) (fun f0=>jCR 12 rfl<|retT [I (i%(2*n)), .bool true]<|(by have hk:idxV i n p=some (i%(2*n)):=(by unfold idxV;(repeat' split)<;>first|rfl|(exfalso;omega)|(congr 1;omega));exact ⟨by rw [hk];rfl,a0⟩)) fun f0=>jCO 2 rfl<|sMul 2 n<|sSub (2*n) 1<|pu1<|sSub ((2*n)-1) (i%(2*n))<|jOR 13 rfl<|retT [I (((2*n)-1)-(i%(2*n))), .bool true] ?_;have hk:idxV i n p=some (((2*n)-1)-(i%(2*n))):=(by unfold idxV;(repeat' split)<;>first|rfl|(exfalso;omega)|(congr 1;omega));exact ⟨by rw [hk];rfl,a0⟩)) fun e0=>?_
 refine jCC 6 rfl<|cE p 2 (fun g0=>jCO 4 rfl<|cS (p3_mod i n (od) hS.flat) fun _ h0=>(by have l0:=Int.emod_nonneg i (by omega:(n:Int)≠0);have m0:=Int.emod_lt_of_pos i (by omega:(0:Int)<n);refine jOR 7 rfl<|retT [I (i%n), .bool true] ?_;have hk:idxV i n p=some (i%n):=(by unfold idxV;(repeat' split)<;>first|rfl|(exfalso;omega)|(congr 1;omega));exact ⟨by rw [hk];rfl,h0⟩)) fun g0=>?_
 refine jCC 6 rfl<|CE p 3 (fun i0=>jCR 10 rfl<|retT [I 0, .bool false]<|(by have hk:idxV i n p=none:=(by unfold idxV;(repeat' split)<;>first|rfl|(exfalso;omega));exact ⟨by rw [hk];rfl,hS⟩)) fun i0=>jCO 5 rfl<|SD 47 (0<=i) (fun j0=>jOR 17 rfl<|retT [I 0, .bool false]<|(by have hk:idxV i n p=none:=(by unfold idxV;(repeat' split)<;>first|rfl|(exfalso;omega));exact ⟨by rw [hk];rfl,hS⟩)) fun j0=>jOC 6 rfl<|CD (i<n) (fun k0=>jCR 10 rfl<|retT [I 0, .bool false]<|(by have hk:idxV i n p=none:=(by unfold idxV;(repeat' split)<;>first|rfl|(exfalso;omega));exact ⟨by rw [hk];rfl,hS⟩)) fun k0=>jCR 10 rfl<|retT [I i, .bool true] ?_
 have hk:idxV i n p=some i:=by unfold idxV;(repeat' split)<;>first|rfl|(exfalso;omega)|(congr 1;omega)
 exact ⟨by rw [hk];rfl,hS⟩
end Go.Proofs.YtghcddbhllkbmaaGreat

namespace Go.Proofs.YtghcddbhllkbmaaGreat
open Go Go.E Go.Proofs.Tryz
set_option linter.all false
set_option maxRecDepth 100000
set_option maxHeartbeats 2000000
variable {W w:World} {H:Chunk} {F:List Chunk}
theorem r1_ceil (a:Int) (b:Int) (hab:a<=4611686018427387904/\b<=4611686018427387904) (hS:Sat W w (H::F)):
  Ro prog 78 #[I a,I b] (I (ceilV a b)) W w (H::F):=by
 refine callsK 22 func78 rfl<|jCO 11 rfl<|sD 8 (a<0) (fun a0=>jOR 13 rfl<|retT [I 0]<|(by have hk:ceilV a b=0:=(by unfold ceilV;rw [if_neg om]);exact ⟨by rw [hk];rfl,hS⟩)) fun a0=>jOC 5 rfl<|cD (b<1) (fun b0=>jCR 7 rfl<|retT [I 0]<|(by have hk:ceilV a b=0:=(by unfold ceilV;rw [if_neg om]);exact ⟨by rw [hk];rfl,hS⟩)) fun b0=>jCC 3 rfl ?_
 have ht:a.tdiv b=a/b:=Int.tdiv_eq_ediv_of_nonneg om;have hm:a.tmod b=a%b:=Int.tmod_eq_emod_of_nonneg om;have hd:=tdiv_bd (a:=a) (b:=b) (A:=a) om om;have d0:=Int.emod_nonneg a (by omega:b≠0);have e0:=Int.emod_lt_of_pos a (by omega:0<b)
 refine jCO 3 rfl<|sQuo a b<|jOO 8 rfl<|sRem a b<|jOC 3 rfl<|CD ((a.tmod b)>0) (fun c0=>jCR 9 rfl<|retT [I (a.tdiv b)]<|(by have hk:ceilV a b=(a.tdiv b):=(by unfold ceilV;rw [if_pos om,if_pos (by rw [<-hm];omega),<-ht]);exact ⟨by rw [hk];rfl,hS⟩)) fun c0=>jCO 2 rfl<|sAdd (a.tdiv b) 1<|jOR 10 rfl<|retT [I ((a.tdiv b)+1)] ?_
 have hk:ceilV a b=((a.tdiv b)+1):=by unfold ceilV;rw [if_pos om,if_neg (by rw [<-hm];omega),<-ht]
 exact ⟨by rw [hk];rfl,hS⟩
theorem r1_align (n:Int) (k:Int) (l:Int) (hab:n<=4611686018427387904/\k<=4611686018427387904/\l<=4611686018427387904) (hS:Sat W w (H::F)):
  Ro prog 41 #[I n,I k,I l] (.tuple #[I (alnX n k l), .bool (alnOK n k l)]) W w (H::F):=by
 refine callsK 22 func41 rfl<|jCO 12 rfl<|sD 10 (n<0) (fun a0=>jOR 14 rfl<|retT [I 0, .bool false]<|(by have h1:alnOK n k l=false:=(by unfold alnOK;rw [if_neg om]);have h2:alnX n k l=0:=(by unfold alnX;rw [if_neg om]);exact ⟨by rw [h1,h2];rfl,hS⟩)) fun a0=>jOC 5 rfl<|cD (k<1) (fun b0=>jCR 8 rfl<|retT [I 0, .bool false]<|(by have h1:alnOK n k l=false:=(by unfold alnOK;rw [if_neg om]);have h2:alnX n k l=0:=(by unfold alnX;rw [if_neg om]);exact ⟨by rw [h1,h2];rfl,hS⟩)) fun b0=>jCO 6 rfl<|cS (r1_ceil n k (od) hS.flat) fun _ c0=>pu2<|cS (r1_mul (ceilV n k) k l (od) c0.flat) fun _ d0=>jOR 7 rfl<|retT [I (mulV (ceilV n k) k l), .bool (mulOK (ceilV n k) k l)] ?_
 have h1:alnOK n k l=mulOK (ceilV n k) k l:=by unfold alnOK;rw [if_pos om]
 have h2:alnX n k l=mulV (ceilV n k) k l:=by unfold alnX;rw [if_pos om]
 exact ⟨by rw [h1,h2];rfl,d0⟩
theorem r5_fine (w0:Int) (h0:Int) (tw:Int) (th:Int) (hS:Sat W w (H::F)):
  Ro prog 77 #[I w0,I h0,I tw,I th] (.bool (decide (fineP w0 h0 tw th))) W w (H::F):=by
 refine callsK 39 func77 rfl<|jCO 10 rfl<|SD 11 (w0>=1) (fun a0=>jOR 31 rfl<|retT [.bool false]<|⟨rB (by unfold fineP;exact bq),hS⟩) fun a0=>pu4<|SD 15 (w0<=128) (fun b0=>jOR 27 rfl<|retT [.bool false]<|⟨rB (by unfold fineP;exact bq),hS⟩) fun b0=>pu4<|SD 19 (h0>=1) (fun c0=>jOR 23 rfl<|retT [.bool false]<|⟨rB (by unfold fineP;exact bq),hS⟩) fun c0=>?_
 exact pu4<|SD 23 (h0<=128) (fun d0=>jOR 19 rfl<|retT [.bool false]<|⟨rB (by unfold fineP;exact bq),hS⟩) fun d0=>pu4<|SD 27 (tw>=1) (fun e0=>jOR 15 rfl<|retT [.bool false]<|⟨rB (by unfold fineP;exact bq),hS⟩) fun e0=>pu4<|SD 31 (tw<=64) (fun f0=>jOR 11 rfl<|retT [.bool false]<|⟨rB (by unfold fineP;exact bq),hS⟩) fun f0=>pu4<|SD 35 (th>=1) (fun g0=>jOR 7 rfl<|retT [.bool false]<|⟨rB (by unfold fineP;exact bq),hS⟩) fun g0=>jOR 7 rfl<|retT [.bool (decide ((th:Int)<=64))]<|⟨rB (by unfold fineP;exact bq),hS⟩
theorem r5_count (w0:Int) (h0:Int) (tw:Int) (th:Int) (hS:Sat W w (H::F)):
  Ro prog 38 #[I w0,I h0,I tw,I th] (.tuple #[I (colsN w0 h0 tw th),I (rowsN w0 h0 tw th)]) W w (H::F):=by
 refine callsK 22 func38 rfl<|jCO 13 rfl<|cS (r5_fine w0 h0 tw th hS.flat) fun _ a0=>jOC 3 rfl<|CDn (fineP w0 h0 tw th) (fun b0=>jCR 8 rfl<|retT [I 0,I 0]<|(by have hk:=cols_no (w:=w0) (h:=h0) (tw:=tw) (th:=th) (by first|assumption|(unfold fineP;omega));exact ⟨by rw [hk.1,hk.2];rfl,a0⟩)) fun b0=>jCC 3 rfl ?_
 have e0:=b0;unfold fineP at e0
 refine jCO 3 rfl<|cS (r1_ceil w0 tw (od) a0.flat) fun _ c0=>pu2<|cS (r1_ceil h0 th (od) c0.flat) fun _ d0=>jOR 5 rfl<|retT [I (ceilV w0 tw),I (ceilV h0 th)] ?_
 have hf:fineP w0 h0 tw th:=by first|assumption|(unfold fineP;omega)
 have h1:colsN w0 h0 tw th=ceilV w0 tw:=by (unfold colsN;rw [if_pos hf])
 have h2:rowsN w0 h0 tw th=ceilV h0 th:=by (unfold rowsN;rw [if_pos hf])
 exact ⟨by rw [h1,h2];rfl,d0⟩
theorem r2_coord (n:Int) (hS:Sat W w (H::F)):
  Ro prog 116 #[I n] (.bool (decide (-(1048576:Int)<=n/\n<=1048576))) W w (H::F):=by
 exact callsK 9 func116 rfl<|jCO 10 rfl<|SD 5 (n>=(-1048576)) (fun a0=>jOR 7 rfl<|retT [.bool false]<|⟨rB bq,hS⟩) fun a0=>jOR 7 rfl<|retT [.bool (decide ((n:Int)<=1048576))]<|⟨rB bq,hS⟩
theorem r2_empty (r:Rct) (hS:Sat W w (H::F)):
  Ro prog 117 #[.agg (encRct r).toArray] (.bool (decide (r.x0=0/\r.y0=0/\r.x1=0/\r.y1=0))) W w (H::F):=by
 exact callsK 6 func117 rfl<|jCO 2 rfl<|sBx hS (encRct r) fun _ _ a0=>gOO a0 7 [400] rfl<|stepY (.bool (((r.x0:Int)==0)&&((r.y0:Int)==0)&&((r.x1:Int)==0)&&((r.y1:Int)==0))) rfl rfl (Y_eqS rfl kr kr (eqve45 _ r.x0 r.y0 r.x1 r.y1 0 0 0 0))<|jOR 4 rfl<|retT [.bool (((r.x0:Int)==0)&&((r.y0:Int)==0)&&((r.x1:Int)==0)&&((r.y1:Int)==0))]<|⟨rB bq,(a0.dropAt 0 rfl)⟩
theorem r2_valid (r:Rct) (hS:Sat W w (H::F)):
  Ro prog 71 #[.agg (encRct r).toArray] (.bool (decide (rvP r))) W w (H::F):=by
 refine callsK 40 func71 rfl<|jCO 2 rfl<|sBx hS (encRct r) fun _ _ b0=>gOO b0 7 [400] rfl<|stepY (.bool (((r.x0:Int)==0)&&((r.y0:Int)==0)&&((r.x1:Int)==0)&&((r.y1:Int)==0))) rfl rfl (Y_eqS rfl kr kr (eqve45 _ r.x0 r.y0 r.x1 r.y1 0 0 0 0))<|pu1<|bD ((r.x0:Int)=0/\(r.y0:Int)=0/\(r.x1:Int)=0/\(r.y1:Int)=0) (fun f0=>sFix 6 _ true (show (((r.x0:Int)==0)&&((r.y0:Int)==0)&&((r.x1:Int)==0)&&((r.y1:Int)==0))=true from by simpa [and_assoc] using f0)<|jOR 37 rfl<|retT [.bool true]<|⟨rB (by unfold rvP cooP;exact bq),(b0.dropAt 0 rfl)⟩) fun f0=>sFix 6 _ false (show (((r.x0:Int)==0)&&((r.y0:Int)==0)&&((r.x1:Int)==0)&&((r.y1:Int)==0))=false from by rw [<-Bool.not_eq_true];intro h_;exact f0 (by simpa [and_assoc] using h_))<|gOO b0 2 [0] rfl<|gY<|cS (r2_coord r.x0 b0.flat) fun _ c0=>pu1<|SD 10 (-(1048576:Int)<=r.x0/\r.x0<=1048576) (fun h0=>jOR 33 rfl<|retT [.bool false]<|⟨rB (by unfold rvP cooP;exact bq),(c0.dropAt 0 rfl)⟩) fun h0=>?_
 refine gOO c0 2 [0] rfl<|gY<|cS (r2_coord r.y0 c0.flat) fun _ d0=>pu2<|SD 15 (-(1048576:Int)<=r.y0/\r.y0<=1048576) (fun j0=>jOR 28 rfl<|retT [.bool false]<|⟨rB (by unfold rvP cooP;exact bq),(d0.dropAt 0 rfl)⟩) fun j0=>gOO d0 2 [0] rfl<|gY<|cS (r2_coord r.x1 d0.flat) fun _ e0=>pu2<|SD 20 (-(1048576:Int)<=r.x1/\r.x1<=1048576) (fun l0=>jOR 23 rfl<|retT [.bool false]<|⟨rB (by unfold rvP cooP;exact bq),(e0.dropAt 0 rfl)⟩) fun l0=>gOO e0 2 [0] rfl<|gY<|cS (r2_coord r.y1 e0.flat) fun _ a0=>pu2<|SD 25 (-(1048576:Int)<=r.y1/\r.y1<=1048576) (fun n0=>jOR 18 rfl<|retT [.bool false]<|⟨rB (by unfold rvP cooP;exact bq),(a0.dropAt 0 rfl)⟩) fun n0=>?_
 exact gOO a0 7 [0,0] rfl<|SD 32 (r.x0<r.x1) (fun p0=>jOR 11 rfl<|retT [.bool false]<|⟨rB (by unfold rvP cooP;exact bq),(a0.dropAt 0 rfl)⟩) fun p0=>gOR a0 11 [0,0] rfl<|retT [.bool (decide (r.y0<r.y1))]<|⟨rB (by unfold rvP cooP;exact bq),(a0.dropAt 0 rfl)⟩
theorem r2_full (r:Rct) (hS:Sat W w (H::F)):
  Ro prog 79 #[.agg (encRct r).toArray] (.bool (decide (rvP r/\¬(r.x0=0/\r.y0=0/\r.x1=0/\r.y1=0)))) W w (H::F):=by
 exact callsK 10 func79 rfl<|jCO 2 rfl<|sBx hS (encRct r) fun _ _ b0=>gOO b0 6 [400] rfl<|cS (r2_valid r b0.flat) fun _ a0=>pu1<|SD 5 (rvP r) (fun c0=>jOR 8 rfl<|retT [.bool false]<|⟨rB bs,(a0.dropAt 0 rfl)⟩) fun c0=>gOO a0 1 [400] rfl<|gY<|cS (r2_empty r a0.flat) fun _ e0=>jOR 6 rfl<|retT [.bool (!decide (r.x0=0/\r.y0=0/\r.x1=0/\r.y1=0))]<|⟨rB bs,(e0.dropAt 0 rfl)⟩
theorem r5_tile (w0:Int) (h0:Int) (tw:Int) (th:Int) (i:Int) (hf:fineP w0 h0 tw th) (hi:0<=i/\i<(colsN w0 h0 tw th)*(rowsN w0 h0 tw th)) (hS:Sat W w (H::F)):
  Ro prog 39 #[I w0,I h0,I tw,I th,I i] (.tuple #[.agg #[I ((tileV w0 h0 tw th i).x0),I ((tileV w0 h0 tw th i).y0),I ((tileV w0 h0 tw th i).x1),I ((tileV w0 h0 tw th i).y1)], .bool true]) W w (H::F):=by
 have hb:=cols_bd hf;have hq:=tile_ix hb.1.1 hi.1 hi.2;have hp:=mul_bd (a:=(colsN w0 h0 tw th)) (b:=(rowsN w0 h0 tw th)) (A:=128) (B:=128) om om;have e1:(i.tmod (colsN w0 h0 tw th))=i%(colsN w0 h0 tw th):=Int.tmod_eq_emod_of_nonneg hi.1;have e2:(i.tdiv (colsN w0 h0 tw th))=i/(colsN w0 h0 tw th):=Int.tdiv_eq_ediv_of_nonneg hi.1;have j0:=hf;unfold fineP at j0;have k0:=mul_bd (a:=i.tmod (colsN w0 h0 tw th)) (b:=tw) (A:=128) (B:=64) om om;have l0:=mul_bd (a:=i.tdiv (colsN w0 h0 tw th)) (b:=th) (A:=128) (B:=64) om om
 exact callsK 57 func39 rfl<|jCO 2 rfl<|sAlloc hS zeroValue45 fun _ _ e0=>jOO 9 rfl<|cS (r5_count w0 h0 tw th e0.flat) fun _ a0=>jOO 13 rfl<|sD 26 (i<0) (fun f0=>jOO 12 rfl<|sTk a0 0 rfl [I 0,I 0,I 0,I 0] fun _ b0=>jOR 5 rfl<|retD b0 0 [I 0,I 0,I 0,I 0] (.bool false)<|(by have o0:=(b0.dropAt 0 rfl);first|omega|(exfalso;omega))) fun f0=>pu3<|gY<|sMul (colsN w0 h0 tw th) (rowsN w0 h0 tw th)<|jOC 4 rfl<|cD (i>=((colsN w0 h0 tw th)*(rowsN w0 h0 tw th))) (fun g0=>jCO 3 rfl<|sTk a0 0 rfl [I 0,I 0,I 0,I 0] fun _ c0=>jOR 5 rfl<|retD c0 0 [I 0,I 0,I 0,I 0] (.bool false)<|(by have q0:=(c0.dropAt 0 rfl);first|omega|(exfalso;omega))) fun g0=>jCC 3 rfl<|drawF a0 [] (fn) [0,1,2,3,4,5,6,7,8,9,10,11] fun _ i0=>wV 2<|wRem i (colsN w0 h0 tw th)<|wV 1<|wMul (i.tmod (colsN w0 h0 tw th)) tw<|wV 2<|wQuo i (colsN w0 h0 tw th)<|wV 1<|wMul (i.tdiv (colsN w0 h0 tw th)) th<|wV 2<|wN<|jXO 7 rfl<|sAdd ((i.tmod (colsN w0 h0 tw th))*tw) tw<|pu1<|stepY (I (min (((i.tmod (colsN w0 h0 tw th))*tw)+tw) w0)) rfl rfl (Y_min2 (((i.tmod (colsN w0 h0 tw th))*tw)+tw) w0 rfl rfl kr kr)<|pu2<|sAdd ((i.tdiv (colsN w0 h0 tw th))*th) th<|pu1<|stepY (I (min (((i.tdiv (colsN w0 h0 tw th))*th)+th) h0)) rfl rfl (Y_min2 (((i.tdiv (colsN w0 h0 tw th))*th)+th) h0 rfl rfl kr kr)<|pu1<|sTk i0 0 rfl [I ((i.tmod (colsN w0 h0 tw th))*tw),I ((i.tdiv (colsN w0 h0 tw th))*th),I (min (((i.tmod (colsN w0 h0 tw th))*tw)+tw) w0),I (min (((i.tdiv (colsN w0 h0 tw th))*th)+th) h0)] fun _ d0=>jOR 4 rfl<|retD d0 0 [I ((i.tmod (colsN w0 h0 tw th))*tw),I ((i.tdiv (colsN w0 h0 tw th))*th),I (min (((i.tmod (colsN w0 h0 tw th))*tw)+tw) w0),I (min (((i.tdiv (colsN w0 h0 tw th))*th)+th) h0)] (.bool true)<|⟨by unfold tileV;rw [<-e1,<-e2];rfl,(d0.dropAt 0 rfl)⟩
theorem r3_mod (i:Int) (n:Int) (hn:1<=n/\n<=4611686018427387904) (hS:Sat W w (H::F)):
  Ro prog 185 #[I i,I n] (I (i%n)) W w (H::F):=by
 have b0:=Int.tmod_lt_of_pos i (by omega:0<n);have c0:=Int.lt_tmod_of_pos i (by omega:0<n)
 exact callsK 15 func185 rfl<|jCO 9 rfl<|sRem i n<|jOC 10 rfl<|CD ((i.tmod n)<0) (fun a0=>jCR 9 rfl<|retT [I (i.tmod n)]<|(by have hk:=mod_emod (i:=i) (n:=n) om;rw [if_neg om] at hk;exact ⟨by rw [<-hk];rfl,hS⟩)) fun a0=>jCO 3 rfl<|sAdd (i.tmod n) n<|jOR 10 rfl<|retT [I ((i.tmod n)+n)]<|(by have hk:=mod_emod (i:=i) (n:=n) om;rw [if_pos om] at hk;exact ⟨by rw [<-hk];rfl,hS⟩)
theorem r3_index (i:Int) (n:Int) (p:Int) (hS:Sat W w (H::F)):
  Ro prog 155 #[I i,I n,I p] (.tuple #[I ((idxV i n p).getD 0), .bool ((idxV i n p).isSome)]) W w (H::F):=by
 refine callsK 56 func155 rfl<|jCO 12 rfl<|sD 11 (n<1) (fun b0=>jOR 14 rfl<|retT [I 0, .bool false]<|(by have hk:idxV i n p=none:=(by unfold idxV;(repeat' split)<;>first|rfl|(exfalso;omega));exact ⟨by rw [hk];rfl,hS⟩)) fun b0=>jOC 5 rfl<|cD (n>128) (fun c0=>jCR 8 rfl<|retT [I 0, .bool false]<|(by have hk:idxV i n p=none:=(by unfold idxV;(repeat' split)<;>first|rfl|(exfalso;omega));exact ⟨by rw [hk];rfl,hS⟩)) fun c0=>jCC 15 rfl<|cE p 0 (fun d0=>jCO 3 rfl<|stepY (I (max i 0)) rfl rfl (Y_max2 i 0 rfl rfl kr kr)<|pu1<|sSub n 1<|stepY (I (min (max i 0) (n-1))) rfl rfl (Y_min2 (max i 0) (n-1) rfl rfl kr kr)<|jOR 7 rfl<|retT [I (min (max i 0) (n-1)), .bool true]<|(by have hk:idxV i n p=some (min (max i 0) (n-1)):=(by unfold idxV;(repeat' split)<;>first|rfl|(exfalso;omega)|(congr 1;omega));exact ⟨by rw [hk];rfl,hS⟩)) fun d0=>jCC 6 rfl<|cE p 1 (fun e0=>jCO 5 rfl<|sMul 2 n<|cS (r3_mod i (2*n) (od) hS.flat) fun _ a0=>(by have m0:=Int.emod_nonneg i (by omega:((2*n):Int)≠0);have n0:=Int.emod_lt_of_pos i (by omega:(0:Int)<(2*n));refine jOC 10 rfl<|cD ((i%(2*n))>=n) (fun f0=>jCO 3 rfl<|sMul 2 n<|sSub (2*n) 1<|pu1<|sSub ((2*n)-1) (i%(2*n))<|jOR 8 rfl<|retT [I (((2*n)-1)-(i%(2*n))), .bool true]<|(by have hk:idxV i n p=some (((2*n)-1)-(i%(2*n))):=(by unfold idxV;(repeat' split)<;>first|rfl|(exfalso;omega)|(congr 1;omega));exact ⟨by rw [hk];rfl,a0⟩)) fun f0=>jCO 6 rfl<|sMul 2 n<|cS (r3_mod i (2*n) (od) a0.flat) fun _ g0=>?_;have m0:=Int.emod_nonneg i (by omega:((2*n):Int)≠0);have n0:=Int.emod_lt_of_pos i (by omega:(0:Int)<(2*n));refine jOR 7 rfl<|retT [I (i%(2*n)), .bool true] ?_;have hk:idxV i n p=some (i%(2*n)):=(by unfold idxV;(repeat' split)<;>first|rfl|(exfalso;omega)|(congr 1;omega));exact ⟨by rw [hk];rfl,g0⟩)) fun e0=>?_
 refine jCC 6 rfl<|cE p 2 (fun h0=>jCO 4 rfl<|cS (r3_mod i n (od) hS.flat) fun _ i0=>(by have m0:=Int.emod_nonneg i (by omega:(n:Int)≠0);have n0:=Int.emod_lt_of_pos i (by omega:(0:Int)<n);refine jOR 7 rfl<|retT [I (i%n), .bool true] ?_;have hk:idxV i n p=some (i%n):=(by unfold idxV;(repeat' split)<;>first|rfl|(exfalso;omega)|(congr 1;omega));exact ⟨by rw [hk];rfl,i0⟩)) fun h0=>?_
 refine jCC 6 rfl<|CE p 3 (fun j0=>jCR 10 rfl<|retT [I 0, .bool false]<|(by have hk:idxV i n p=none:=(by unfold idxV;(repeat' split)<;>first|rfl|(exfalso;omega));exact ⟨by rw [hk];rfl,hS⟩)) fun j0=>jCO 5 rfl<|SD 50 (i>=0) (fun k0=>jOR 17 rfl<|retT [I 0, .bool false]<|(by have hk:idxV i n p=none:=(by unfold idxV;(repeat' split)<;>first|rfl|(exfalso;omega));exact ⟨by rw [hk];rfl,hS⟩)) fun k0=>jOC 6 rfl<|CD (i<n) (fun l0=>jCR 10 rfl<|retT [I 0, .bool false]<|(by have hk:idxV i n p=none:=(by unfold idxV;(repeat' split)<;>first|rfl|(exfalso;omega));exact ⟨by rw [hk];rfl,hS⟩)) fun l0=>jCR 10 rfl<|retT [I i, .bool true] ?_
 have hk:idxV i n p=some i:=by unfold idxV;(repeat' split)<;>first|rfl|(exfalso;omega)|(congr 1;omega)
 exact ⟨by rw [hk];rfl,hS⟩
theorem r16_taps (ax:Option Addr) (nx kx:Nat) (x:List Tap) (hx:RdT encTap 2 [H] ax nx kx x) (dx:∀z∈x,Tap.Ok [H] z) (hS:Sat W w (H::F)):
  Ro prog 184 #[.slice ax nx kx] (.bool ((x.map Tap.v).all tapP)) W w (H::F):=by
 have q0:=hx.ll
 refine callsK 33 func184 rfl<|jCC 12 rfl<|loopF [0] (γ:=Nat) (fun i R=>⟨[(3,I (i:Int))],R,nx-i,i<=nx/\(((x.map Tap.v).take i).all tapP=true)⟩) 0 ⟨hS,om,by rfl⟩ ?_
 rintro i ρ _ ⟨c0,hi,hE⟩
 refine jCC 9 rfl<|CD ((i:Int)<(nx:Int)) (fun f0=>jCR 11 rfl<|retT [.bool true]<|⟨by rw [all_of_take hE (by rw [List.length_map];omega)];rfl,c0⟩) fun f0=>jCO 8 rfl<|sIN hx i fun a0 _ _ b0 g0=>?_
 have p0:=(dx a0 (List.mem_of_getElem? b0)).weights.len;have o0:=(dx a0 (List.mem_of_getElem? b0)).weights.le
 refine pu1<|sMp c0 (g0.up 0 rfl) 1 (.slice a0.weights.a a0.weights.n a0.weights.k)<|pu3<|sD 17 ((a0.weights.n:Int)>8) (fun h0=>jOR 29 rfl<|retT [.bool false]<|⟨by rw [all_false_at (map_at (f:=Tap.v) b0) (decide_eq_false (by simp only [Tap.v];omega))];rfl,c0⟩) fun h0=>pu2<|gY<|sIN hx i fun i0 _ _ d0 j0=>?_
 obtain rfl:a0=i0:=Option.some.inj (b0.symm.trans d0)
 have p0:=(dx a0 (List.mem_of_getElem? d0)).weights.len;have o0:=(dx a0 (List.mem_of_getElem? d0)).weights.le
 refine pu1<|gY<|sMp c0 (j0.up 0 rfl) 0 (I a0.first)<|pu3<|sD 25 (a0.first<(-128)) (fun k0=>jOR 21 rfl<|retT [.bool false]<|⟨by rw [all_false_at (map_at (f:=Tap.v) b0) (decide_eq_false (by simp only [Tap.v];omega))];rfl,c0⟩) fun k0=>pu2<|gY<|sIN hx i fun l0 _ _ e0 m0=>?_
 obtain rfl:a0=l0:=Option.some.inj (b0.symm.trans e0)
 have p0:=(dx a0 (List.mem_of_getElem? e0)).weights.len;have o0:=(dx a0 (List.mem_of_getElem? e0)).weights.le
 exact pu1<|gY<|sMp c0 (m0.up 0 rfl) 0 (I a0.first)<|jOC 4 rfl<|cD (a0.first>256) (fun n0=>jCR 11 rfl<|retT [.bool false]<|⟨by rw [all_false_at (map_at (f:=Tap.v) b0) (decide_eq_false (by simp only [Tap.v];omega))];rfl,c0⟩) fun n0=>jCO 5 rfl<|sAdd (i:Int) 1<|jOI 2 rfl<|⟨i+1,od,alB,c0,om,all_succ hE (map_at (f:=Tap.v) b0) (decide_eq_true (by simp only [Tap.v];omega))⟩
theorem r16_fine (q:Stage) (n:Int) (fr:Int) (up:Int) (hq:Stage.Ok [H] q) (hS:Sat W w (H::F)):
  Ro prog 153 #[.agg (encStage q).toArray,I n,I fr,I up] (.bool (decide (lenP n fr up/\accV q.v))) W w (H::F):=by
 have E0:=hq.weights.ll
 have J0:=hq.row.le;have C0:=hq.row.len
 have H0:=hq.col.le;have B0:=hq.col.len
 have M0:=hq.x.le;have F0:=hq.x.len
 have N0:=hq.y.le;have G0:=hq.y.len
 have I0:=hq.ops.ll
 have L0:=C0;have K0:=B0;have O0:=F0;have P0:=G0
 refine callsK 70 func153 rfl<|jCO 2 rfl<|sBx hS (encStage q) fun _ _ c0=>jOO 9 rfl<|sD 11 (n<1) (fun k0=>jOR 34 rfl<|retT [.bool false]<|(by have l0:=(c0.dropAt 0 rfl);have hk:decide (lenP n fr up/\accV q.v)=false:=decide_eq_false (fun h=>by have h1:=h.1;unfold lenP at h1;omega);exact ⟨by rw [hk];rfl,l0⟩)) fun k0=>pu4<|sD 15 (n>128) (fun m0=>jOR 30 rfl<|retT [.bool false]<|(by have n0:=(c0.dropAt 0 rfl);have hk:decide (lenP n fr up/\accV q.v)=false:=decide_eq_false (fun h=>by have h1:=h.1;unfold lenP at h1;omega);exact ⟨by rw [hk];rfl,n0⟩)) fun m0=>pu4<|sD 19 (fr<0) (fun o0=>jOR 26 rfl<|retT [.bool false]<|(by have p0:=(c0.dropAt 0 rfl);have hk:decide (lenP n fr up/\accV q.v)=false:=decide_eq_false (fun h=>by have h1:=h.1;unfold lenP at h1;omega);exact ⟨by rw [hk];rfl,p0⟩)) fun o0=>pu4<|sD 23 (fr>128) (fun q0=>jOR 22 rfl<|retT [.bool false]<|(by have r0:=(c0.dropAt 0 rfl);have hk:decide (lenP n fr up/\accV q.v)=false:=decide_eq_false (fun h=>by have h1:=h.1;unfold lenP at h1;omega);exact ⟨by rw [hk];rfl,r0⟩)) fun q0=>pu4<|sD 27 (up<0) (fun s0=>jOR 18 rfl<|retT [.bool false]<|(by have t0:=(c0.dropAt 0 rfl);have hk:decide (lenP n fr up/\accV q.v)=false:=decide_eq_false (fun h=>by have h1:=h.1;unfold lenP at h1;omega);exact ⟨by rw [hk];rfl,t0⟩)) fun s0=>pu4<|sD 31 (up>128) (fun u0=>jOR 14 rfl<|retT [.bool false]<|(by have v0:=(c0.dropAt 0 rfl);have hk:decide (lenP n fr up/\accV q.v)=false:=decide_eq_false (fun h=>by have h1:=h.1;unfold lenP at h1;omega);exact ⟨by rw [hk];rfl,v0⟩)) fun u0=>?_
 refine gOO c0 1 [1800] rfl<|gY<|cS (r15_fields q (hq.of_mem (mF 1)) c0.flat) fun _ a0=>jOC 4 rfl<|CDn (fieldsP q.v) (fun b0=>jCR 7 rfl<|retT [.bool false]<|(by have w0:=(a0.dropAt 0 rfl);have hk:decide (lenP n fr up/\accV q.v)=false:=decide_eq_false (fun h=>b0 h.2.1);exact ⟨by rw [hk];rfl,w0⟩)) fun b0=>gCC a0 16 [0] rfl<|cE q.kind 1 (fun d0=>gCO a0 4 [0] rfl<|cS (r9_side q.kW a0.flat) fun _ e0=>pu1<|SD 43 ((1:Int)<=q.kW/\q.kW<=(9:Int)) (fun x0=>jOR 10 rfl<|retT [.bool false]<|(by have y0:=(e0.dropAt 0 rfl);have D0:lenP n fr up:=(by unfold lenP;omega);have A0:=acc1 (s:=q.v) b0 (show q.v.kind=1 from d0);have hk:decide (lenP n fr up/\accV q.v)=false:=decide_eq_false (fun h=>by have h1:=A0.1 h.2;unfold kerP at h1;simp only [Stage.v,L0,K0] at h1;omega);exact ⟨by rw [hk];rfl,y0⟩)) fun x0=>gOO e0 2 [0] rfl<|gY<|cS (r9_side q.kH e0.flat) fun _ z0=>jOR 7 rfl<|retT [.bool (decide ((1:Int)<=q.kH/\q.kH<=(9:Int)))]<|(by have a1:=(z0.dropAt 0 rfl);have D0:lenP n fr up:=(by unfold lenP;omega);have A0:=acc1 (s:=q.v) b0 (show q.v.kind=1 from d0);have hk:decide (lenP n fr up/\accV q.v)=decide ((1:Int)<=q.kH/\q.kH<=(9:Int)):=(by rw [Bool.eq_iff_iff,decide_eq_true_eq,and_iff_right D0,A0];unfold kerP;simp only [Stage.v,L0,K0,decide_eq_true_eq,Bool.false_eq_true];omega);exact ⟨by rw [hk];rfl,a1⟩)) fun d0=>?_
 refine jCC 6 rfl<|cE q.kind 2 (fun f0=>gCO a0 5 [0] rfl<|cS (r9_side (q.row.n:Int) a0.flat) fun _ g0=>pu1<|SD 54 ((1:Int)<=(q.row.n:Int)/\(q.row.n:Int)<=(9:Int)) (fun b1=>jOR 11 rfl<|retT [.bool false]<|(by have c1:=(g0.dropAt 0 rfl);have D0:lenP n fr up:=(by unfold lenP;omega);have A0:=acc2 (s:=q.v) b0 (show q.v.kind=2 from f0);have hk:decide (lenP n fr up/\accV q.v)=false:=decide_eq_false (fun h=>by have h1:=A0.1 h.2;unfold kerP at h1;simp only [Stage.v,L0,K0] at h1;omega);exact ⟨by rw [hk];rfl,c1⟩)) fun b1=>gOO g0 3 [0] rfl<|gY<|cS (r9_side (q.col.n:Int) g0.flat) fun _ d1=>jOR 7 rfl<|retT [.bool (decide ((1:Int)<=(q.col.n:Int)/\(q.col.n:Int)<=(9:Int)))]<|(by have e1:=(d1.dropAt 0 rfl);have D0:lenP n fr up:=(by unfold lenP;omega);have A0:=acc2 (s:=q.v) b0 (show q.v.kind=2 from f0);have hk:decide (lenP n fr up/\accV q.v)=decide ((1:Int)<=(q.col.n:Int)/\(q.col.n:Int)<=(9:Int)):=(by rw [Bool.eq_iff_iff,decide_eq_true_eq,and_iff_right D0,A0];unfold kerP;simp only [Stage.v,L0,K0,decide_eq_true_eq,Bool.false_eq_true];omega);exact ⟨by rw [hk];rfl,e1⟩)) fun f0=>?_
 refine jCC 6 rfl<|CE q.kind 3 (fun h0=>jCR 9 rfl<|retT [.bool true]<|(by have f1:=(a0.dropAt 0 rfl);have D0:lenP n fr up:=(by unfold lenP;omega);have A0:=acc0 (s:=q.v) b0 (show ¬q.v.kind=1 from sv) (show ¬q.v.kind=2 from sv) (show ¬q.v.kind=3 from sv);have hk:decide (lenP n fr up/\accV q.v)=true:=decide_eq_true ⟨D0,A0⟩;exact ⟨by rw [hk];rfl,f1⟩)) fun h0=>gCO a0 4 [0] rfl<|cS (r16_taps q.x.a q.x.n q.x.k q.x.l (hq.x.fl 1) (fun z hz=>(hq.xD z hz).of_mem (mF 1)) a0.flat) fun _ i0=>pu1<|SB 65 ((q.x.l.map Tap.v).all tapP) (fun j0=>jOR 10 rfl<|retT [.bool false]<|(by have g1:=(i0.dropAt 0 rfl);have D0:lenP n fr up:=(by unfold lenP;omega);have A0:=acc3 (s:=q.v) b0 (show q.v.kind=3 from h0);have hk:decide (lenP n fr up/\accV q.v)=false:=decide_eq_false (fun h=>by have h1:=A0.1 h.2;first|exact j0 h1.1|exact j0 h1.2);exact ⟨by rw [hk];rfl,g1⟩)) fun j0=>gOO i0 2 [0] rfl<|gY<|cS (r16_taps q.y.a q.y.n q.y.k q.y.l (hq.y.fl 1) (fun z hz=>(hq.yD z hz).of_mem (mF 1)) i0.flat) fun _ i1=>jOR 7 rfl<|retT [.bool ((q.y.l.map Tap.v).all tapP)] ?_
 have j1:=(i1.dropAt 0 rfl)
 have D0:lenP n fr up:=by unfold lenP;omega
 have A0:=acc3 (s:=q.v) b0 (show q.v.kind=3 from h0)
 have hk:decide (lenP n fr up/\accV q.v)=((q.y.l.map Tap.v).all tapP):=by rw [Bool.eq_iff_iff,decide_eq_true_eq,and_iff_right D0,A0];simp only [Stage.v];simp_all
 exact ⟨by rw [hk];rfl,j1⟩
theorem r16_win (kd:Int) (i:Int) (sz:Int) (atb:Option Addr) (ntb ktb:Nat) (tb:List Tap) (htb:RdT encTap 2 [H] atb ntb ktb tb) (dtb:∀z∈tb,Tap.Ok [H] z) (hs:(¬(kd=1\/kd=2)\/(1<=sz/\sz<=9))/\0<=i/\i<=1000) (hS:Sat W w (H::F)):
  Ro prog 154 #[I kd,I i,I sz, .slice atb ntb ktb] (.tuple #[I (winF kd i sz (tb.map Tap.v)),I (winC kd i sz (tb.map Tap.v))]) W w (H::F):=by
 have n0:=htb.ll
 refine callsK 37 func154 rfl<|jCC 20 rfl<|cE kd 1 (fun c0=>jCC 2 rfl<|cT _ (beq_iff_eq.2 c0)<|jCC 1 rfl<|(by have ht:sz.tdiv 2=sz/2:=Int.tdiv_eq_ediv_of_nonneg om;refine jCO 3 rfl<|sQuo sz 2<|sSub i (sz.tdiv 2)<|jOR 8 rfl<|retT [I (i-(sz.tdiv 2)),I sz] ?_;have h1:winF kd i sz (tb.map Tap.v)=(i-(sz.tdiv 2)):=(by unfold winF;rw [if_pos om,ht]);have h2:winC kd i sz (tb.map Tap.v)=sz:=(by unfold winC;rw [if_pos om]);exact ⟨by rw [h1,h2];rfl,hS⟩)) fun c0=>?_
 refine jCC 5 rfl<|cE kd 2 (fun f0=>jCC 1 rfl<|(by have ht:sz.tdiv 2=sz/2:=Int.tdiv_eq_ediv_of_nonneg om;refine jCO 3 rfl<|sQuo sz 2<|sSub i (sz.tdiv 2)<|jOR 8 rfl<|retT [I (i-(sz.tdiv 2)),I sz] ?_;have h1:winF kd i sz (tb.map Tap.v)=(i-(sz.tdiv 2)):=(by unfold winF;rw [if_pos om,ht]);have h2:winC kd i sz (tb.map Tap.v)=sz:=(by unfold winC;rw [if_pos om]);exact ⟨by rw [h1,h2];rfl,hS⟩)) fun f0=>?_
 refine jCC 6 rfl<|CE kd 3 (fun g0=>jCR 11 rfl<|retT [I i,I 1]<|(by have h1:winF kd i sz (tb.map Tap.v)=i:=(by unfold winF;rw [if_neg om,if_neg om]);have h2:winC kd i sz (tb.map Tap.v)=1:=(by unfold winC;rw [if_neg om,if_neg om]);exact ⟨by rw [h1,h2];rfl,hS⟩)) fun g0=>jCC 9 rfl<|CD (i<(ntb:Int)) (fun h0=>jCR 11 rfl<|retT [I 0,I 0]<|(by have p0:(tb.map Tap.v)[i.toNat]?=none:=List.getElem?_eq_none (by rw [List.length_map];omega);have h1:winF kd i sz (tb.map Tap.v)=0:=(by unfold winF;rw [if_neg om,if_pos om,p0]);have h2:winC kd i sz (tb.map Tap.v)=0:=(by unfold winC;rw [if_neg om,if_pos om,p0]);exact ⟨by rw [h1,h2];rfl,hS⟩)) fun h0=>?_
 refine jCC 1 rfl ?_
 obtain ⟨a0,j0,k0,b0,d0,e0⟩:=RdT.elem htb i
 have l0:=(dtb a0 (List.mem_of_getElem? b0)).weights.len;have m0:=(dtb a0 (List.mem_of_getElem? b0)).weights.le
 refine drawF hS [] (fq 4 0 (d0.up 0 rfl)<|fq 9 1 (d0.up 0 rfl)<|fn) [0,1,2,3,5,6,7,8,4,11,9,10,12] fun _ i0=>wV 2<|wI e0<|wV 3<|wI e0<|wV 1<|wL 0<|wV 1<|wL 1<|wV 2<|wN<|jXR 5 rfl<|retT [I a0.first,I (a0.weights.n:Int)] ?_
 have o0:=map_at (f:=Tap.v) b0
 have h1:winF kd i sz (tb.map Tap.v)=a0.first:=by unfold winF;rw [if_neg om,if_pos om,o0];rfl
 have h2:winC kd i sz (tb.map Tap.v)=(a0.weights.n:Int):=by unfold winC;rw [if_neg om,if_pos om,o0];exact congrArg (fun (z:Nat)=>(z:Int)) l0
 exact ⟨by rw [h1,h2];rfl,i0⟩
theorem r16_need (q:Stage) (n:Int) (fr:Int) (up:Int) (sz:Int) (atb:Option Addr) (ntb ktb:Nat) (tb:List Tap) (hq:Stage.Ok [H] q) (htb:RdT encTap 2 [H] atb ntb ktb tb) (dtb:∀z∈tb,Tap.Ok [H] z) (hsz:szOK q.v sz (tb.map Tap.v)) (hS:Sat W w (H::F)):
  Calls prog 118 #[.agg (encStage q).toArray,I n,I fr,I up,I sz, .slice atb ntb ktb] w fun e w'=>∃(az:Option Addr) (nz kz:Nat) (G:Chunk),e= .returned (.slice az nz kz)/\OwnT Go.E.encI 3 1 az nz kz (needV q.v n fr up sz (tb.map Tap.v)) G/\Sat W w' (G::H::F):=by
 have D0:=hq.weights.ll
 have P0:=hq.row.le;have B0:=hq.row.len
 have N0:=hq.col.le;have A0:=hq.col.len
 have f1:=hq.x.le;have F0:=hq.x.len
 have o1:=hq.y.le;have G0:=hq.y.len
 have O0:=hq.ops.ll
 have t1:=htb.ll
 have L1:=B0;have K1:=A0;have I1:=F0;have J1:=G0
 refine callsK 85 func118 rfl<|jCO 2 rfl<|sBx hS (encStage q) fun _ _ g0=>gOO g0 10 [1800] rfl<|cS (r16_fine q n fr up (hq.of_mem (mF 1)) g0.flat) fun _ a0=>jOC 3 rfl<|CDn (lenP n fr up/\accV q.v) (fun c0=>jCR 7 rfl<|retT [nS]<|(by have l0:=(a0.dropAt 0 rfl);have m0:=Sat.nilc l0;have hl:([]:List Int)=needV q.v n fr up sz (tb.map Tap.v):=(by unfold needV;rw [if_neg (show ¬(lenP n fr up/\accV q.v) from c0)]);have R0:=OwnT.nil (enc:=Go.E.encI) (E:=3) (sz:=1) fR;rw [hl] at R0;exact ⟨_,_,_,_,rfl,R0,m0⟩)) fun c0=>jCC 3 rfl ?_
 obtain ⟨Q0,E0⟩:lenP n fr up/\accV q.v:=c0
 have C1:=Q0;unfold lenP at C1;obtain ⟨X0,D1⟩:=hsz E0;have s1:=acc_kind E0;replace X0:¬(q.kind=1\/q.kind=2)\/(1<=sz/\sz<=9):=X0;replace s1:1<=q.kind/\q.kind<=6:=s1
 refine gCC a0 7 [0] rfl<|cutF a0 0 [1,2,3,4,5,6] (γ:=Unit) (fun _ R=>⟨[(13,I (polV q.v))],R,0,True⟩) ?_ ?_
 ·exact gCC a0 7 [0] rfl<|cD (q.kind>3) (fun n0=>jCI 3 rfl<|⟨(),⟨⟨(Eq.trans (b:=I 3) kr (congrArg (fun z=>Value.int .i64 z) (show 3=polV q.v from by unfold polV;rw [if_pos (by simp only [Stage.v];omega)]))),trivial⟩,sA⟩,a0,trivial⟩) fun n0=>jCI 1 rfl<|⟨(),⟨⟨(Eq.trans (b:=I q.edgePolicy) kr (congrArg (fun z=>Value.int .i64 z) (show q.edgePolicy=polV q.v from by unfold polV;rw [if_neg (by simp only [Stage.v];omega)];rfl))),trivial⟩,sA⟩,a0,trivial⟩
 rintro _ ρ _ ⟨o0,_⟩
 refine jCO 3 rfl<|sMake (kl:= .i64) (kc:= .i64) (enc:=encKB) (sz:=1) (nb:=1) o0 false (n).toNat n (om:n=(((n).toNat:Nat):Int)) underlying41 (i:=Tryz.t4) kr fR fun p0 q0 _ r0 s0=>jOC 11 rfl<|loopF [1,3,4,5,6,13] (γ:=Nat×Int×(List Bool)×SO) (fun ⟨i,u0,ks,T0,Z0,Y0,U0⟩ R=>⟨[(15,I u0),(14, .slice T0 Z0 Y0)],U0::R,((up-fr).toNat)-i,i<=(up-fr).toNat/\(u0=fr+(i:Int))/\(MkB n.toNat ks (hitsV q.v n fr sz (tb.map Tap.v) i))/\OwnT encKB 4 1 T0 Z0 Y0 ks U0⟩) (0,fr,(List.replicate (n).toNat false),(At p0 0),(n).toNat,(n).toNat,q0) ⟨s0,om,om,(MkB.zero (fun m=>rfl)),r0⟩ ?_
 rintro ⟨i,u0,ks,T0,Z0,Y0,U0⟩ ρ _ ⟨d0,hi,z1,hM,C0⟩
 have v1:=C0.ll
 refine jCC 8 rfl<|CD (u0<up) (fun t0=>jCC 12 rfl<|(by have B1:i=(up-fr).toNat:=(by omega);have q1:MkB (n.toNat) ks (needB q.v n fr up sz (tb.map Tap.v)):=(by rw [B1] at hM;exact hM);have H1:=hM.1;have G1:=(C0).len;refine jCC 5 rfl<|loopF [1,14] (γ:=Nat×(List Int)×SO) (fun ⟨m,zs,L0,K0,S0,V0⟩ R=>⟨[(22,I (m:Int)),(21, .slice L0 K0 S0)],V0::R,n.toNat-m,m<=n.toNat/\(zs=(uptoV m).filter (needB q.v n fr up sz (tb.map Tap.v)))/\OwnT Go.E.encI 3 1 L0 K0 S0 zs V0⟩) (0,[],none,0,0,[]) ⟨(Sat.nilc d0),om,by rfl,(OwnT.nil (enc:=Go.E.encI) (E:=3) (sz:=1) fR)⟩ ?_;rintro ⟨m,zs,L0,K0,S0,V0⟩ ρ _ ⟨b0,hm,hE,hOzs⟩;have x1:=hOzs.ll;refine jCC 8 rfl<|CD ((m:Int)<n) (fun w0=>jCR 12 rfl<|retT [.slice L0 K0 S0]<|(by have x0:=(b0.drops [1,1]);have hl:zs=needV q.v n fr up sz (tb.map Tap.v):=(by unfold needV;rw [if_pos ⟨Q0,E0⟩,hE,show m=n.toNat by omega]);have R0:=hOzs;rw [hl] at R0;exact ⟨_,_,_,_,rfl,R0,x0⟩)) fun w0=>jCO 8 rfl<|sIO C0 (m:Int) m fun h0 _ _ i0 y0 _=>sMp b0 (y0.up 1 rfl) 0 (.bool h0)<|jOC 2 rfl<|CB h0 (fun e0=>jCO 5 rfl<|sAdd (m:Int) 1<|jOI 2 rfl<|⟨(m+1,zs,L0,K0,S0,V0),od,alB,b0,om,(by rw [upto_snoc_filter,<-q1.at i0,if_neg e0,<-hE,List.append_nil]),hOzs⟩) fun e0=>?_;have N1:zs.length<=m:=(by rw [hE];exact Nat.le_trans (List.length_filter_le _ _) (by rw [upto_len];exact Nat.le_refl _));exact jCO 3 rfl<|sBK b0 #[I (m:Int)] 3 fun _ _ z0=>sApp (nb:=8) z0 hOzs 1 (RdT.blk (enc:=Go.E.encI) (sz:=1) (xs:=[(m:Int)]) fR 1 0 rfl rfl rfl om) underlying22 (i:=Tryz.t3) kr fR fun a1 b1 c1 _ d1 e1=>jOO 6 rfl<|sAdd (m:Int) 1<|jOI 2 rfl<|⟨(m+1,(zs++[(m:Int)]),a1,(K0+1),b1,c1),od,alB,(e1.dropAt 0 rfl),om,(by rw [upto_snoc_filter,<-q1.at i0,if_pos e0,<-hE]),d1⟩)) fun t0=>?_
 refine gCO d0 11 [1] rfl<|cS (r16_win q.kind u0 sz atb ntb ktb tb (htb.fl 2) (fun z hz=>(dtb z hz).of_mem (mF 2)) ⟨X0,om⟩ d0.flat) fun _ g1=>jOC 8 rfl ?_
 have M1:=win_bd (kd:=q.kind) (k:=u0) (size:=sz) (t:=(tb.map Tap.v)) X0 D1 om
 refine jCC 6 rfl<|loopF [1,3,4,5,6,13,15,16,17] (γ:=Nat×Int×(List Bool)×SO) (fun ⟨k,cv,kt,H0,J0,I0,M0⟩ R=>⟨[(18,I cv),(14, .slice H0 J0 I0)],M0::R,((winC q.kind u0 sz (tb.map Tap.v)).toNat)-k,k<=(winC q.kind u0 sz (tb.map Tap.v)).toNat/\(cv=(winF q.kind u0 sz (tb.map Tap.v))+(k:Int))/\(MkB n.toNat kt (fun m=>hitsV q.v n fr sz (tb.map Tap.v) i m||(List.range k).any fun j=>decide (idxV ((winF q.kind u0 sz (tb.map Tap.v))+(j:Int)) n (polV q.v)=some m)))/\OwnT encKB 4 1 H0 J0 I0 kt M0⟩) (0,(winF q.kind u0 sz (tb.map Tap.v)),ks,T0,Z0,Y0,U0) ⟨g1,om,om,(hM.congr (fun m=>by simp)),C0⟩ ?_
 rintro ⟨k,cv,kt,H0,J0,I0,M0⟩ ρ _ ⟨j0,hk,r1,W0,v0⟩
 have w1:=v0.ll
 have F1:=W0.1
 refine jCO 6 rfl<|sAdd (winF q.kind u0 sz (tb.map Tap.v)) (winC q.kind u0 sz (tb.map Tap.v))<|jOC 3 rfl<|CD (cv<((winF q.kind u0 sz (tb.map Tap.v))+(winC q.kind u0 sz (tb.map Tap.v)))) (fun h1=>jCO 8 rfl<|sAdd u0 1<|jOI 2 rfl<|⟨(i+1,(u0+1),kt,H0,J0,I0,M0),od,alB,j0,om,om,(W0.congr (fun m=>(hits_succ (s:=q.v) z1 (by simp only [Stage.v];omega)).symm)),v0⟩) fun h1=>jCO 9 rfl<|cS (r3_index cv n (polV q.v) j0.flat) fun _ k0=>jOC 12 rfl<|CB ((idxV cv n (polV q.v)).isSome) (fun f0=>jCO 5 rfl<|sAdd cv 1<|jOI 2 rfl<|⟨(k+1,(cv+1),kt,H0,J0,I0,M0),od,alB,k0,om,om,(W0.none (by rw [<-r1];exact Option.not_isSome_iff_eq_none.1 f0)),v0⟩) fun f0=>?_
 obtain ⟨c,hc⟩:=Option.isSome_iff_exists.1 f0
 have E1:=idx_bd hc;have A1:(idxV cv n (polV q.v)).getD 0=c:=(by simp [hc]);have y1:idxV ((winF q.kind u0 sz (tb.map Tap.v))+(k:Int)) n (polV q.v)=some c:=(by rw [<-r1];exact hc)
 exact jCO 3 rfl<|sIO v0 ((idxV cv n (polV q.v)).getD 0) (((idxV cv n (polV q.v)).getD 0)).toNat fun i1 _ _ j1 _ k1=>sStF k0 v0 k1 0 (((idxV cv n (polV q.v)).getD 0)).toNat 0 i1 true j1 (.bool true) [.bool true] sizeOf4 fun _ l1 m1 n1=>jOO 5 rfl<|sAdd cv 1<|jOI 2 rfl<|⟨(k+1,(cv+1),(kt.set ((((idxV cv n (polV q.v)).getD 0)).toNat) true),H0,J0,I0,l1),od,alB,n1,om,om,(by rw [A1];exact MkB.one (c:=c) W0 y1 om),m1⟩
theorem r16_cols (q:Stage) (n:Int) (fr:Int) (up:Int) (hq:Stage.Ok [H] q) (hS:Sat W w (H::F)):
  Calls prog 119 #[.agg (encStage q).toArray,I n,I fr,I up] w fun e w'=>∃(az:Option Addr) (nz kz:Nat) (G:Chunk),e= .returned (.slice az nz kz)/\OwnT Go.E.encI 3 1 az nz kz (colsV q.v n fr up) G/\Sat W w' (G::H::F):=by
 have s0:=hq.weights.ll
 have y0:=hq.row.le;have r0:=hq.row.len
 have w0:=hq.col.le;have q0:=hq.col.len
 have C0:=hq.x.le;have t0:=hq.x.len
 have D0:=hq.y.le;have u0:=hq.y.len
 have x0:=hq.ops.ll
 have E0:=r0;have H0:=q0;have F0:=t0;have G0:=u0
 refine callsK 26 func119 rfl<|jCO 2 rfl<|sBx hS (encStage q) fun _ _ a0=>gOC a0 18 [0,0] rfl<|CE q.kind 2 (fun b0=>gCO a0 11 [1800,0] rfl<|cZ (r16_need q n fr up q.kW q.x.a q.x.n q.x.k q.x.l (hq.of_mem (mF 1)) (hq.x.fl 1) (fun z hz=>(hq.xD z hz).of_mem (mF 1)) (by have h:=szOK_cols q.v;rw [if_neg (show ¬q.v.kind=2 from b0)] at h;exact h) a0.flat)<|(by rintro _ _ ⟨e0,f0,g0,_,rfl,c0,h0⟩;have i0:=h0.unflat1;have z0:=c0.ll;exact jOR 4 rfl<|retT [.slice e0 f0 g0]<|(by have j0:=(i0.dropAt 1 rfl);have hl:(needV q.v n fr up q.kW (q.x.l.map Tap.v))=colsV q.v n fr up:=(by unfold colsV;rw [if_neg (show ¬q.v.kind=2 from b0)];rfl);have A0:=c0;rw [hl] at A0;exact ⟨_,_,_,_,rfl,A0,j0⟩))) fun b0=>gCO a0 16 [0,1800,0] rfl<|cZ (r16_need q n fr up (q.row.n:Int) q.x.a q.x.n q.x.k q.x.l (hq.of_mem (mF 1)) (hq.x.fl 1) (fun z hz=>(hq.xD z hz).of_mem (mF 1)) (by have h:=szOK_cols q.v;rw [if_pos (show q.v.kind=2 from b0),show q.v.row.length=q.row.n from E0] at h;exact h) a0.flat) ?_
 rintro _ _ ⟨k0,l0,m0,_,rfl,d0,n0⟩
 have o0:=n0.unflat1
 have B0:=d0.ll
 exact jOR 4 rfl<|retT [.slice k0 l0 m0]<|(by have p0:=(o0.dropAt 1 rfl);have hl:(needV q.v n fr up (q.row.n:Int) (q.x.l.map Tap.v))=colsV q.v n fr up:=(by unfold colsV;rw [if_pos (show q.v.kind=2 from b0),show q.v.row.length=q.row.n from E0];rfl);have A0:=d0;rw [hl] at A0;exact ⟨_,_,_,_,rfl,A0,p0⟩)
theorem r16_rows (q:Stage) (n:Int) (fr:Int) (up:Int) (hq:Stage.Ok [H] q) (hS:Sat W w (H::F)):
  Calls prog 80 #[.agg (encStage q).toArray,I n,I fr,I up] w fun e w'=>∃(az:Option Addr) (nz kz:Nat) (G:Chunk),e= .returned (.slice az nz kz)/\OwnT Go.E.encI 3 1 az nz kz (rowsV q.v n fr up) G/\Sat W w' (G::H::F):=by
 have s0:=hq.weights.ll
 have y0:=hq.row.le;have r0:=hq.row.len
 have w0:=hq.col.le;have q0:=hq.col.len
 have C0:=hq.x.le;have t0:=hq.x.len
 have D0:=hq.y.le;have u0:=hq.y.len
 have x0:=hq.ops.ll
 have H0:=r0;have E0:=q0;have F0:=t0;have G0:=u0
 refine callsK 26 func80 rfl<|jCO 2 rfl<|sBx hS (encStage q) fun _ _ a0=>gOC a0 18 [0,0] rfl<|CE q.kind 2 (fun b0=>gCO a0 11 [1800,0] rfl<|cZ (r16_need q n fr up q.kH q.y.a q.y.n q.y.k q.y.l (hq.of_mem (mF 1)) (hq.y.fl 1) (fun z hz=>(hq.yD z hz).of_mem (mF 1)) (by have h:=szOK_rows q.v;rw [if_neg (show ¬q.v.kind=2 from b0)] at h;exact h) a0.flat)<|(by rintro _ _ ⟨e0,f0,g0,_,rfl,c0,h0⟩;have i0:=h0.unflat1;have z0:=c0.ll;exact jOR 4 rfl<|retT [.slice e0 f0 g0]<|(by have j0:=(i0.dropAt 1 rfl);have hl:(needV q.v n fr up q.kH (q.y.l.map Tap.v))=rowsV q.v n fr up:=(by unfold rowsV;rw [if_neg (show ¬q.v.kind=2 from b0)];rfl);have A0:=c0;rw [hl] at A0;exact ⟨_,_,_,_,rfl,A0,j0⟩))) fun b0=>gCO a0 16 [0,1800,0] rfl<|cZ (r16_need q n fr up (q.col.n:Int) q.y.a q.y.n q.y.k q.y.l (hq.of_mem (mF 1)) (hq.y.fl 1) (fun z hz=>(hq.yD z hz).of_mem (mF 1)) (by have h:=szOK_rows q.v;rw [if_pos (show q.v.kind=2 from b0),show q.v.col.length=q.col.n from E0] at h;exact h) a0.flat) ?_
 rintro _ _ ⟨k0,l0,m0,_,rfl,d0,n0⟩
 have o0:=n0.unflat1
 have B0:=d0.ll
 exact jOR 4 rfl<|retT [.slice k0 l0 m0]<|(by have p0:=(o0.dropAt 1 rfl);have hl:(needV q.v n fr up (q.col.n:Int) (q.y.l.map Tap.v))=rowsV q.v n fr up:=(by unfold rowsV;rw [if_pos (show q.v.kind=2 from b0),show q.v.col.length=q.col.n from E0];rfl);have A0:=d0;rw [hl] at A0;exact ⟨_,_,_,_,rfl,A0,p0⟩)
theorem r16_some (al:Option Addr) (nl kl:Nat) (l:List Int) (a:Int) (b:Int) (hl:RdT Go.E.encI 1 [H] al nl kl l) (hS:Sat W w (H::F)):
  Ro prog 120 #[.slice al nl kl,I a,I b] (.bool (someV l a b)) W w (H::F):=by
 have k0:=hl.ll
 refine callsK 28 func120 rfl<|jCC 12 rfl<|loopF [0,1,2] (γ:=Nat) (fun i R=>⟨[(7,I (i:Int))],R,nl-i,i<=nl/\((l.take i).any (fun v=>decide (a<=v/\v<b))=false)⟩) 0 ⟨hS,om,by rfl⟩ ?_
 rintro i ρ _ ⟨a0,hi,hE⟩
 refine jCC 9 rfl<|CD ((i:Int)<(nl:Int)) (fun e0=>jCR 11 rfl<|retT [.bool false]<|⟨by rw [show someV l a b=false from by rw [List.take_of_length_le om] at hE;exact hE];rfl,a0⟩) fun e0=>jCO 8 rfl<|sIN hl i fun b0 _ _ c0 f0=>sMp a0 (f0.up 0 rfl) 0 (I b0)<|pu3<|SD 20 (b0>=a) (fun g0=>jOO 15 rfl<|sAdd (i:Int) 1<|jOI 2 rfl<|⟨i+1,od,alB,a0,om,(any_take_no hE c0 (decide_eq_false om))⟩) fun g0=>pu2<|gY<|sIN hl i fun h0 _ _ d0 i0=>?_
 obtain rfl:b0=h0:=Option.some.inj (c0.symm.trans d0)
 exact gY<|sMp a0 (i0.up 0 rfl) 0 (I b0)<|jOC 5 rfl<|CD (b0<b) (fun j0=>jCO 5 rfl<|sAdd (i:Int) 1<|jOI 2 rfl<|⟨i+1,od,alB,a0,om,(any_take_no hE c0 (decide_eq_false om))⟩) fun j0=>jCR 11 rfl<|retT [.bool true]<|⟨by rw [show someV l a b=true from any_of_at (p:=(fun v=>decide (a<=v/\v<b))) c0 (decide_eq_true om)];rfl,a0⟩
theorem r16_tiles (q:Stage) (w0:Int) (h0:Int) (tw:Int) (th:Int) (r:Rct) (hq:Stage.Ok [H] q) (hv:inP r) (hS:Sat W w (H::F)):
  Calls prog 82 #[.agg (encStage q).toArray,I w0,I h0,I tw,I th, .agg (encRct r).toArray] w fun e w'=>∃(az:Option Addr) (nz kz:Nat) (G:Chunk),e= .returned (.slice az nz kz)/\OwnT Go.E.encI 3 1 az nz kz (tilesV q.v w0 h0 tw th r) G/\Sat W w' (G::H::F):=by
 have B0:=hq.weights.ll
 have J0:=hq.row.ll
 have H0:=hq.col.ll
 have O0:=hq.x.ll
 have P0:=hq.y.ll
 have I0:=hq.ops.ll
 unfold inP at hv
 refine callsK 81 func82 rfl<|jCO 2 rfl<|sBx hS (encStage q) fun _ _ j0=>sBx j0 (encRct r) fun _ _ d0=>gOO d0 7 [400] rfl<|cS (r2_valid r d0.flat) fun _ k0=>jOC 3 rfl ?_
 have l0:rvP r:=(by unfold rvP cooP;omega)
 refine cF _ (congrArg Bool.not (decide_eq_true l0))<|jCC 3 rfl<|drawF k0 [6,13] (fb 0 1 0 18<|fb 3 0 0 1<|fb 5 0 2 1<|fb 7 1 0 18<|fb 10 0 1 1<|fb 12 0 3 1<|fn) [1,2,4,8,9,11,0,3,5,7,10,12,6,13,14,15] fun _ m0=>wV 6<|wG 0 18<|wL 18<|wL 19<|wG 20 18<|wL 38<|wL 39<|wO rfl<|cZ (r16_cols q w0 r.x0 r.x1 (hq.of_mem (mF 2)) m0.flat) ?_
 rintro _ _ ⟨n0,o0,p0,_,rfl,a0,q0⟩
 have e0:=q0.unflat1
 have M0:=a0.ll
 refine nZ e0 [2,1,1]<|wO rfl<|cZ (r16_rows q h0 r.y0 r.y1 (hq.of_mem (mF 3)) e0.flat) ?_
 rintro _ _ ⟨r0,s0,t0,_,rfl,b0,u0⟩
 have v0:=u0.unflat1
 have N0:=b0.ll
 refine nA<|wV 2<|wN<|jXO 7 rfl<|cS (r5_count w0 h0 tw th v0.flat) fun _ z0=>jOC 8 rfl ?_
 have S0:0<=(colsN w0 h0 tw th)*(rowsN w0 h0 tw th)/\(colsN w0 h0 tw th)*(rowsN w0 h0 tw th)<=16384:=by
   by_cases hf:fineP w0 h0 tw th
   ·have hb:=cols_bd hf;exact mul_bd (A:=128) (B:=128) om om
   ·rw [(cols_no hf).1,Int.zero_mul];omega
 refine jCC 11 rfl<|loopF [1,2,3,4,13,14,15,16] (γ:=Nat×(List Int)×SO) (fun ⟨i,zs,D0,C0,E0,F0⟩ R=>⟨[(18,I (i:Int)),(17, .slice D0 C0 E0)],F0::R,(((colsN w0 h0 tw th)*(rowsN w0 h0 tw th)).toNat)-i,i<=((colsN w0 h0 tw th)*(rowsN w0 h0 tw th)).toNat/\(zs=(uptoV i).filter (fun i=>someV (colsV q.v w0 r.x0 r.x1) (i%(colsN w0 h0 tw th)*tw) ((i%(colsN w0 h0 tw th)+1)*tw)&&someV (rowsV q.v h0 r.y0 r.y1) (i/(colsN w0 h0 tw th)*th) ((i/(colsN w0 h0 tw th)+1)*th)))/\OwnT Go.E.encI 3 1 D0 C0 E0 zs F0⟩) (0,[],none,0,0,[]) ⟨(Sat.nilc z0),om,by rfl,(OwnT.nil (enc:=Go.E.encI) (E:=3) (sz:=1) fR)⟩ ?_
 rintro ⟨i,zs,D0,C0,E0,F0⟩ ρ _ ⟨f0,hi,hE,A0⟩
 have Q0:=A0.ll
 refine jCO 6 rfl<|sMul (colsN w0 h0 tw th) (rowsN w0 h0 tw th)<|jOC 3 rfl<|CD ((i:Int)<((colsN w0 h0 tw th)*(rowsN w0 h0 tw th))) (fun c1=>jCR 12 rfl<|retT [.slice D0 C0 E0]<|(by have d1:=(f0.drops [1,1,1,1]);have hl:zs=tilesV q.v w0 h0 tw th r:=(by unfold tilesV;rw [hE,show i=tilN w0 h0 tw th by unfold tilN;omega]);have R0:=A0;rw [hl] at R0;exact ⟨_,_,_,_,rfl,R0,d1⟩)) fun c1=>jCC 5 rfl ?_
 have hf:fineP w0 h0 tw th:=by
   by_cases hf:fineP w0 h0 tw th
   ·exact hf
   ·exfalso;rw [(cols_no hf).1,Int.zero_mul] at*;omega
 have T0:=tile_in hf (i:=(i:Int)) om om
 refine jCO 6 rfl<|cS (r5_tile w0 h0 tw th (i:Int) hf om f0.flat) fun _ e1=>pu3<|sAlloc e1 zeroValue45 fun _ _ f1=>sTk f1 0 rfl [I ((tileV w0 h0 tw th (i:Int)).x0),I ((tileV w0 h0 tw th (i:Int)).y0),I ((tileV w0 h0 tw th (i:Int)).x1),I ((tileV w0 h0 tw th (i:Int)).y1)] fun _ g0=>gOO g0 10 [0,0] rfl<|cS (r16_some n0 o0 p0 (colsV q.v w0 r.x0 r.x1) ((tileV w0 h0 tw th (i:Int)).x0) ((tileV w0 h0 tw th (i:Int)).x1) (RdT.flat (a0.rdAt 3 (by rfl))) g0.flat) fun _ c0=>pu1<|SB 68 (someV (colsV q.v w0 r.x0 r.x1) ((tileV w0 h0 tw th (i:Int)).x0) ((tileV w0 h0 tw th (i:Int)).x1)) (fun g1=>jOO 15 rfl<|sAdd (i:Int) 1<|jOI 2 rfl<|(by have K0:=some_min (l:=(colsV q.v w0 r.x0 r.x1)) (a:=(i:Int)%(colsN w0 h0 tw th)*tw) (b:=(i:Int)%(colsN w0 h0 tw th)*tw+tw) (n:=w0) (fun x hx=>(need_mem hx).2);have L0:=some_min (l:=(rowsV q.v h0 r.y0 r.y1)) (a:=(i:Int)/(colsN w0 h0 tw th)*th) (b:=(i:Int)/(colsN w0 h0 tw th)*th+th) (n:=h0) (fun x hx=>(need_mem hx).2);have G0:(fun i=>someV (colsV q.v w0 r.x0 r.x1) (i%(colsN w0 h0 tw th)*tw) ((i%(colsN w0 h0 tw th)+1)*tw)&&someV (rowsV q.v h0 r.y0 r.y1) (i/(colsN w0 h0 tw th)*th) ((i/(colsN w0 h0 tw th)+1)*th)) (i:Int)=false:=(by dsimp only;rw [Int.add_mul,Int.one_mul,Int.add_mul,Int.one_mul,<-K0,<-L0];unfold tileV at*;simp_all);exact ⟨(i+1,zs,D0,C0,E0,F0),od,alB,(c0.dropAt 0 rfl),om,(by rw [upto_snoc_filter,if_neg (fun h=>Bool.false_ne_true (G0.symm.trans h)),<-hE,List.append_nil]),A0⟩)) fun g1=>?_
 refine gOO c0 5 [0,0] rfl<|gY<|cS (r16_some r0 s0 t0 (rowsV q.v h0 r.y0 r.y1) ((tileV w0 h0 tw th (i:Int)).y0) ((tileV w0 h0 tw th (i:Int)).y1) (RdT.flat (b0.rdAt 2 (by rfl))) c0.flat) fun _ i0=>jOC 3 rfl<|CB (someV (rowsV q.v h0 r.y0 r.y1) ((tileV w0 h0 tw th (i:Int)).y0) ((tileV w0 h0 tw th (i:Int)).y1)) (fun i1=>jCO 5 rfl<|sAdd (i:Int) 1<|jOI 2 rfl<|(by have K0:=some_min (l:=(colsV q.v w0 r.x0 r.x1)) (a:=(i:Int)%(colsN w0 h0 tw th)*tw) (b:=(i:Int)%(colsN w0 h0 tw th)*tw+tw) (n:=w0) (fun x hx=>(need_mem hx).2);have L0:=some_min (l:=(rowsV q.v h0 r.y0 r.y1)) (a:=(i:Int)/(colsN w0 h0 tw th)*th) (b:=(i:Int)/(colsN w0 h0 tw th)*th+th) (n:=h0) (fun x hx=>(need_mem hx).2);have G0:(fun i=>someV (colsV q.v w0 r.x0 r.x1) (i%(colsN w0 h0 tw th)*tw) ((i%(colsN w0 h0 tw th)+1)*tw)&&someV (rowsV q.v h0 r.y0 r.y1) (i/(colsN w0 h0 tw th)*th) ((i/(colsN w0 h0 tw th)+1)*th)) (i:Int)=false:=(by dsimp only;rw [Int.add_mul,Int.one_mul,Int.add_mul,Int.one_mul,<-K0,<-L0];unfold tileV at*;simp_all);exact ⟨(i+1,zs,D0,C0,E0,F0),od,alB,(i0.dropAt 0 rfl),om,(by rw [upto_snoc_filter,if_neg (fun h=>Bool.false_ne_true (G0.symm.trans h)),<-hE,List.append_nil]),A0⟩)) fun i1=>?_
 have U0:zs.length<=i:=by rw [hE];exact Nat.le_trans (List.length_filter_le _ _) (by rw [upto_len];exact Nat.le_refl _)
 exact jCO 3 rfl<|sBK i0 #[I (i:Int)] 3 fun _ _ k1=>sApp (nb:=8) k1 A0 2 (RdT.blk (enc:=Go.E.encI) (sz:=1) (xs:=[(i:Int)]) fR 1 0 rfl rfl rfl om) underlying22 (i:=Tryz.t3) kr fR fun l1 m1 n1 _ o1 q1=>jOO 6 rfl<|sAdd (i:Int) 1<|jOI 2 rfl<|(by have K0:=some_min (l:=(colsV q.v w0 r.x0 r.x1)) (a:=(i:Int)%(colsN w0 h0 tw th)*tw) (b:=(i:Int)%(colsN w0 h0 tw th)*tw+tw) (n:=w0) (fun x hx=>(need_mem hx).2);have L0:=some_min (l:=(rowsV q.v h0 r.y0 r.y1)) (a:=(i:Int)/(colsN w0 h0 tw th)*th) (b:=(i:Int)/(colsN w0 h0 tw th)*th+th) (n:=h0) (fun x hx=>(need_mem hx).2);have G0:(fun i=>someV (colsV q.v w0 r.x0 r.x1) (i%(colsN w0 h0 tw th)*tw) ((i%(colsN w0 h0 tw th)+1)*tw)&&someV (rowsV q.v h0 r.y0 r.y1) (i/(colsN w0 h0 tw th)*th) ((i/(colsN w0 h0 tw th)+1)*th)) (i:Int)=true:=(by dsimp only;rw [Int.add_mul,Int.one_mul,Int.add_mul,Int.one_mul,<-K0,<-L0];unfold tileV at*;simp_all);exact ⟨(i+1,(zs++[(i:Int)]),l1,(C0+1),m1,n1),od,alB,(q1.drops [0,0]),om,(by rw [upto_snoc_filter,if_pos G0,<-hE]),o1⟩)
end Go.Proofs.YtghcddbhllkbmaaGreat

namespace Go.E
set_option linter.unusedVariables false
set_option linter.unusedSimpArgs false
theorem flatMap_dropT {α:Type} {enc:α->List Value} {sz:Nat} (he:∀x,(enc x).length=sz):∀(xs:List α) (i:Nat),(xs.flatMap enc).drop (i*sz)=(xs.drop i).flatMap enc
  |xs,0=>by simp
  |[],i+1=>by simp
  |x::xs,i+1=>by
    rw [List.flatMap_cons,List.drop_succ_cons,<-flatMap_dropT he xs i,show (i+1)*sz=(enc x).length+i*sz by rw [he,Nat.add_mul];omega,List.drop_append]
    rw [List.drop_eq_nil_of_le (by omega)]
    simp
section
variable {P:Program} {n:Nat} {ρ:Env} {W w:World} {cs:List Chunk} {ops:Array Oper} {rest:List Oper} {N:Env->World->Prop} {o:Oper}
theorem sCopyR {α:Type} {enc:α->List Value} {E sz:Nat} {a a' a2:Option Addr} {m cap d cap' n2 k2:Nat} {xs ys:List α} {c:Chunk} (hS:Sat W w cs) (hO:OwnT enc E sz a m cap xs c) (hR:RdT enc sz cs a2 n2 k2 ys) (j lo k:Nat) (hlo:lo+d<=m) (hk:Nat.min n2 d=k) (ha:a'=partAddr a cap lo sz)
    {t:TypeId} {args:Array Operand} {ats:Array TypeId} {x y:Operand} (hu:∀w,(underlying t).run P w= .ok (.slice E) w) (hsz:∀w,(sizeOf E).run P w= .ok sz w) (hone:∀z,∀v∈enc z,v.oneCell'=true)
    (h:∀w' c',OwnT enc E sz a m cap (xs.take lo++ys.take k++xs.drop (lo+k)) c'->Sat W w' (cs.set j c')->OpsE P n ops rest N (put ρ o.dst (.int .i64 (k:Nat))) w')
    (ho:o.op= .call {callee:= .builtin .copy,args:=args,argTypes:=ats}:=by rfl) (hargs:args=#[x,y]:=by rfl) (hats:ats=#[t,t]:=by rfl) (hg:o.guard=none:=by rfl) (hd:dstOK n o.dst=true:=by rfl) (hj:cs[j]?=some c:=by rfl)
    (hx:ev ρ x= .slice a' d cap':=by kernel_rfl) (hy:ev ρ y= .slice a2 n2 k2:=by kernel_rfl):OpsE P n ops (o::rest) N ρ w:=by
  subst hargs;subst hats
  have hnxt:∀w' c',OwnT enc E sz a m cap (xs.take lo++ys.take k++xs.drop (lo+k)) c'->Sat W w' (cs.set j c')->(execOp (ev ρ) o).run P w= .ok (.value (.int .i64 (k:Nat))) w'->OpsE P n ops (o::rest) N ρ w:=fun w' c' hO' hS' hr=>
    stepRun hg hd hr (h w' c' hO' hS')
  have hk1:k<=n2:=hk▸Nat.min_le_left _ _
  have hk2:k<=d:=hk▸Nat.min_le_right _ _
  by_cases h0:k=0
  · subst h0
    refine hnxt w c ?_ (hS.set j hj (fun h=>h)) ?_
    · rw [List.take_zero,List.append_nil,Nat.add_zero,List.take_append_drop];exact hO
    · have hf:∀b,(Builtin.firstCells sz 0 (.slice b n2 k2)).run P w= .ok #[] w:=by
        intro b
        cases b with
        |none=>exact run_firstCells_none w _ _ _ _
        |some p=>exact run_firstCells_some (P:=P) w sz 0 p _ _ [] (by simp) (by simp)
      unfold execOp
      rw [ho]
      simp only [resolve,invoke,builtin,List.map_toArray,List.map_cons,List.map_nil,hx,hy]
      cases a'<;>simp [Builtin.copy_,hu,hsz,Builtin.lenOf,hk,hf,goInt,storeCells]
  · obtain ⟨hl,he,hlen,hr⟩:=hO
    rcases hr with ⟨_,rfl,_⟩|⟨b,off,cur,rfl,rfl,hn,hcm,hf,ht⟩
    · omega
    · have hne:¬cap=lo:=by omega
      have hms:m*sz<=cap*sz:=Nat.mul_le_mul_right _ hn
      have hls:(lo+k)*sz<=m*sz:=Nat.mul_le_mul_right _ (by omega)
      have hlk:(lo+k)*sz=lo*sz+k*sz:=Nat.add_mul ..
      have hyl:(ys.take k).length=k:=by rw [List.length_take,hR.1];omega
      have hvl:((ys.take k).flatMap enc).length=k*sz:=by rw [flatMap_len he,hyl]
      obtain ⟨_,_,_,hp⟩:=hR.2.2
      rcases hp with hp|⟨b2,o2,rfl,hp⟩
      · omega
      have hfc:=run_firstCells_some (P:=P) w sz k ⟨b2,o2,none⟩ n2 k2 ((ys.take k).flatMap enc) hvl (fun i v hv=>by
        rw [add_off]
        refine hp.cell hS ?_
        rw [<-flatMap_take he,List.getElem?_take] at hv
        split at hv
        · exact hv
        · cases hv)
      have hall:∀u∈(ys.take k).flatMap enc,u.oneCell'=true:=by
        intro u hu'
        obtain ⟨z,_,hz⟩:=List.mem_flatMap.1 hu'
        exact hone z u hz
      have hst:=run_storeCells_at P b (off+lo*sz) E ((ys.take k).flatMap enc) 0 cur w (hS.at j hj) (by simp only [Nat.add_zero,hvl];omega) hall
      simp only [Nat.add_zero] at hst
      simp only [partAddr,if_neg hne,Option.map_some,add_off] at ha
      refine hnxt (w.setRow b (wr cur (off+lo*sz) ((ys.take k).flatMap enc))) [(b, .cells (wr cur (off+lo*sz) ((ys.take k).flatMap enc)) E (0,0))] ?_ (hS.rowAt j hj _) ?_
      · have hxl:(xs.take lo++ys.take k++xs.drop (lo+k)).length=m:=by rw [List.length_append,List.length_append,hyl,List.length_take,List.length_drop];omega
        refine ⟨hxl,he,?_⟩
        refine ⟨by rw [flatMap_len he,hxl], .inr ⟨b,off,_,rfl,rfl,hn,hcm,by rw [size_wr (by rw [hvl];omega)];exact hf,?_⟩⟩
        rw [wr_own (by omega) (by rw [hvl];omega),ht,List.flatMap_append,List.flatMap_append,show (xs.take lo).flatMap enc=(xs.flatMap enc).take (lo*sz) from (flatMap_take he ..).symm,show (xs.drop (lo+k)).flatMap enc=(xs.flatMap enc).drop ((lo+k)*sz) from (flatMap_dropT he ..).symm]
        simp only [wrL,hvl,hlk]
        try simp
      · unfold execOp
        rw [ho]
        simp only [resolve,invoke,builtin,List.map_toArray,List.map_cons,List.map_nil,hx,hy,ha]
        simp [Builtin.copy_,hu,hsz,Builtin.lenOf,hk,hfc,hst,goInt,wr]
end
end Go.E
namespace Go.E
section
variable {P:Program} {n:Nat} {ρ:Env} {W w:World} {cs:List Chunk} {ops:Array Oper} {rest:List Oper} {N:Env->World->Prop} {o:Oper}
theorem run_getM {b:Nat} {es:Array MapEntry} {k:Nat} (h:w.heap[b]?=some (.map es k)):(getObj b).run P w= .ok (.map es k) w:=by simp [getObj,Sem.run,h]
theorem run_setM {b:Nat} {es:Array MapEntry} {k:Nat} (ob:Obj) (h:w.heap[b]?=some (.map es k)):(setObj b ob).run P w= .ok () {w with heap:=w.heap.setIfInBounds b ob}:=by simp [setObj,Sem.run,h]
end
end Go.E
namespace Go.E
def keyI (k:Int):Value:= .int .i64 k
def kvE (e:MapEntry):Value×Value:=(e.key,e.val)
def kvQ (q:Int×Value):Value×Value:=(keyI q.1,q.2)
def MapI (b:Nat) (ks:List (Int×Value)) (c:Chunk):Prop:=∃(es:Array MapEntry) (clock:Nat),c=[(b, .map es clock)]/\es.toList.map kvE=ks.map kvQ/\(es.toList.map (·.born)).Nodup/\∀e∈es.toList,e.born<clock
def iget (ks:List (Int×Value)) (k:Int):Option Value:=(ks.find? fun q=>q.1==k).map (·.2)
theorem find_int {kd:IntKind} (k:Int):∀(es:List MapEntry) (ks:List (Int×Value)) (i:Nat),es.map kvE=ks.map kvQ->∃r,Instr.findNow (.int kd) (.int .i64 k) es i=some r/\r.map (·.2)=iget ks k
  |[],ks,i,h=>by
    have:ks=[]:=by cases ks with|nil=>rfl|cons=>simp at h
    subst this;exact ⟨none,rfl,rfl⟩
  |e::es,ks,i,h=>by
    cases ks with
    |nil=>simp at h
    |cons q ks=>
      simp only [List.map_cons,List.cons.injEq] at h
      obtain ⟨h1,h2⟩:=h
      have hk:e.key= .int .i64 q.1:=congrArg Prod.fst h1
      have hv:e.val=q.2:=congrArg Prod.snd h1
      unfold Instr.findNow
      rw [hk]
      by_cases e1:k=q.1
      · subst e1
        refine ⟨some (i,e.val),by simp [Instr.sameNow],?_⟩
        simp [iget,hv]
      · obtain ⟨r,hr,hr2⟩:=find_int k es ks (i+1) h2
        have e2:(k==q.1)=false:=by simpa using e1
        have e3:(q.1==k)=false:=by simpa using fun h=>e1 h.symm
        refine ⟨r,by simp only [Instr.sameNow,if_true,e2];exact hr,?_⟩
        rw [hr2];unfold iget;rw [List.find?_cons,e3]
section
variable {P:Program} {n:Nat} {ρ:Env} {W w:World} {cs:List Chunk} {ops:Array Oper} {rest:List Oper} {N:Env->World->Prop} {o:Oper}
theorem run_findI {K:TypeId} {kd:IntKind} (hK:∀w,(underlying K).run P w= .ok (.int kd) w) (k:Int) (es:List MapEntry) (ks:List (Int×Value)) (h:es.map kvE=ks.map kvQ):
    ∃r,(Instr.findKey K (keyI k) es).run P w= .ok r w/\r.map (·.2)=iget ks k:=by
  obtain ⟨r,h1,h2⟩:=find_int (kd:=kd) k es ks 0 h
  refine ⟨r,?_,h2⟩
  unfold Instr.findKey
  simp only [Sem.run_bind,hK,Result.andThen]
  unfold keyI
  rw [h1];rfl
theorem run_checkI {K:TypeId} {kd:IntKind} (hK:∀w,(underlying K).run P w= .ok (.int kd) w) (b:Bool) (k:Int):(Instr.checkKey b 10000 K (keyI k)).run P w= .ok () w:=by
  rw [show (10000:Nat)=9999+1 from rfl]
  unfold Instr.checkKey
  simp only [Sem.run_bind,hK,Result.andThen,keyI]
  rfl
theorem Sat.objAt {b:Nat} {o1:Obj} (h:Sat W w cs) (i:Nat) (hi:cs[i]?=some [(b,o1)]) (ob:Obj):Sat W {w with heap:=w.heap.setIfInBounds b ob} (cs.set i [(b,ob)]):=by
  refine h.set i hi fun h=>⟨h.os,h.tape,h.output,?_,?_⟩
  · have:=h.nd
    simp only [List.flatten_cons,List.singleton_append,List.map_cons] at this⊢
    exact this
  · intro p hp
    simp only [List.flatten_cons,List.singleton_append,List.mem_cons] at hp
    have hb:=h.heap (b:=b) (o:=o1) (by simp)
    rcases hp with rfl|hp
    · show (w.heap.setIfInBounds b ob)[b]?=some ob
      have hl:=(Array.getElem?_eq_some_iff.1 hb).1
      simp [hl]
    · have hn:=h.nd
      simp only [List.flatten_cons,List.singleton_append,List.map_cons,List.nodup_cons] at hn
      have hne:p.1≠b:=fun e=>hn.1 (List.mem_map.2 ⟨p,hp,e⟩)
      show (w.heap.setIfInBounds b ob)[p.1]?=some p.2
      rw [Array.getElem?_setIfInBounds_ne (fun e=>hne e.symm)]
      exact h.all p (by simp only [List.flatten_cons,List.singleton_append,List.mem_cons];exact .inr hp)
theorem Y_iget {t K E:TypeId} {kd:IntKind} {x ix:Operand} {b:Nat} {ks:List (Int×Value)} {c:Chunk} {k:Int} {z v:Value} (hS:Sat W w cs) (j:Nat) (hM:MapI b ks c) (hv:(iget ks k).getD z=v)
    (hu:∀w,(underlying t).run P w= .ok (.map K E) w) (hK:∀w,(underlying K).run P w= .ok (.int kd) w) (hz:∀w,(zeroValue E).run P w= .ok z w) (hj:cs[j]?=some c:=by rfl)
    (ho:o.op= .lookup t x ix false:=by rfl) (hx:ev ρ x= .map (some b):=by kernel_rfl) (hi:ev ρ ix= .int .i64 k:=by kernel_rfl):Yields P ρ o v w:=by
  obtain ⟨es,clock,rfl,hk,_,_⟩:=hM
  have hb:=hS.at j hj
  obtain ⟨r,hr,hr2⟩:=run_findI (w:=w) hK k es.toList ks hk
  have hck:=run_checkI (w:=w) hK es.isEmpty k
  have hi2:ev ρ ix=keyI k:=hi
  unfold Yields execOp
  rw [ho]
  simp only [Instr.lookup,hx,hi2,Sem.run_bind,hu,Result.andThen,run_getM hb,hck,hr,Sem.run_pure]
  rw [<-hr2] at hv
  cases r with
  |none=>simp at hv;subst hv;simp [hz]
  |some q=>simp at hv;subst hv;simp
theorem sIAdd {t K E:TypeId} {kd:IntKind} {x ix y:Operand} {b:Nat} {ks:List (Int×Value)} {c:Chunk} {k:Int} {v:Value} (hS:Sat W w cs) (j:Nat) (hM:MapI b ks c) (hno:iget ks k=none)
    (hu:∀w,(underlying t).run P w= .ok (.map K E) w) (hK:∀w,(underlying K).run P w= .ok (.int kd) w) (h:∀c' w',MapI b (ks++[(k,v)]) c'->Sat W w' (cs.set j c')->OpsE P n ops rest N ρ w') (hj:cs[j]?=some c:=by rfl)
    (ho:o.op= .mapUpdate t x ix y:=by rfl) (hg:o.guard=none:=by rfl) (hd:o.dst=none:=by rfl) (hx:ev ρ x= .map (some b):=by kernel_rfl) (hi:ev ρ ix= .int .i64 k:=by kernel_rfl) (hy:ev ρ y=v:=by kernel_rfl):OpsE P n ops (o::rest) N ρ w:=by
  obtain ⟨es,clock,rfl,hk,hn,hb2⟩:=hM
  have hb:=hS.at j hj
  obtain ⟨r,hr,hr2⟩:=run_findI (w:=w) hK k es.toList ks hk
  have hck:=run_checkI (w:=w) hK false k
  have hi2:ev ρ ix=keyI k:=hi
  rw [hno] at hr2
  obtain rfl:r=none:=by cases r with|none=>rfl|some=>cases hr2
  refine stepSkip (w':={w with heap:=w.heap.setIfInBounds b (.map (es.push {key:=keyI k,val:=v,born:=clock}) (clock+1))}) hg (by rw [hd];rfl) ?_ ?_
  · unfold execOp
    rw [ho]
    simp [Instr.mapUpdate,hx,hi2,hy,hu,run_getM hb,hck,hr,run_setM _ hb]
  · rw [hd]
    refine h [(b, .map (es.push {key:=keyI k,val:=v,born:=clock}) (clock+1))] _ ⟨_,_,rfl,?_,?_,?_⟩ (hS.objAt j hj _)
    · rw [Array.toList_push,List.map_append,List.map_append,hk];rfl
    · rw [Array.toList_push,List.map_append,List.nodup_append]
      refine ⟨hn,by simp,?_⟩
      intro a ha b' hb'
      obtain ⟨e,he,rfl⟩:=List.mem_map.1 ha
      obtain rfl:b'=clock:=by simpa using hb'
      have:=hb2 e he;omega
    · intro e he
      simp only [Array.toList_push,List.mem_append,List.mem_singleton] at he
      rcases he with he|rfl
      · have:=hb2 e he;omega
      · show clock<clock+1;omega
theorem sMakeMapI {t:TypeId} (hS:Sat W w cs) (h:∀b c w',MapI b [] c->Sat W w' (c::cs)->OpsE P n ops rest N (put ρ o.dst (.map (some b))) w')
    (ho:o.op= .makeMap t none:=by rfl) (hg:o.guard=none:=by rfl) (hd:dstOK n o.dst=true:=by rfl):OpsE P n ops (o::rest) N ρ w:=by
  refine stepRun (v:= .map (some w.heap.size)) (w':=w.alloc (.map #[] 0)) hg hd ?_ (h _ [(w.heap.size, .map #[] 0)] _ ⟨#[],0,rfl,rfl,by simp,by simp⟩ (hS.alloc _))
  unfold execOp
  rw [ho]
  simp [Instr.makeMap]
def RngI (it b:Nat) (ks rest:List (Int×Value)) (lst:Option (Int×Value)) (cm ci:Chunk):Prop:=∃(es:Array MapEntry) (clock:Nat) (seen:Array Nat),cm=[(b, .map es clock)]/\es.toList.map kvE=ks.map kvQ/\(es.toList.map (·.born)).Nodup/\(∀e∈es.toList,e.born<clock)/\
  ci=[(it, .mapIter (some b) clock seen clock)]/\(leftOf es seen).toList.map kvE=rest.map kvQ/\∀q,lst=some q->∃e∈es.toList,kvE e=kvQ q/\seen.back?=some e.born
theorem RngI.map {it b:Nat} {ks rest:List (Int×Value)} {lst:Option (Int×Value)} {cm ci:Chunk} (h:RngI it b ks rest lst cm ci):MapI b ks cm:=by
  obtain ⟨es,clock,seen,h1,h2,h3,h4,_⟩:=h;exact ⟨es,clock,h1,h2,h3,h4⟩
end
end Go.E
