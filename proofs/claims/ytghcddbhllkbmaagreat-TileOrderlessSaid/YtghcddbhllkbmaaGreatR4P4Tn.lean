import Derived.Test.YtghcddbhllkbmaaGreatR4P4CkP
namespace Go.Proofs.YtghcddbhllkbmaaGreat
open Go Go.E Go.Proofs.Tryz
set_option linter.all false
set_option maxRecDepth 100000
set_option maxHeartbeats 2000000
variable {W w:World} {H:Chunk} {F:List Chunk}
def plAt (l:List PlaneV) (i:Int):PlaneV:=l[i.toNat]?.getD zPl
def srcB (s:StageV) (l:List PlaneV):PlaneV:=if twoP s then plAt l s.b else zPl
def meanS (ni:Int) (ss:List StageV) (n:Int) (out:List PlaneV):PlaneV×Int:=stgT (stgAt ss ni n) (plAt out (stgAt ss ni n).a) (srcB (stgAt ss ni n) out)
def meanG (ni:Int) (ss:List StageV) (l:List Int) (out:List PlaneV):List PlaneV:=l.foldl (fun out n=>out.set n.toNat (meanS ni ss n out).1) out
def meanI (j:JobV):List PlaneV:=j.inputs++List.replicate j.stages.length zPl
def meanV (j:JobV):List PlaneV:=if (shpV j).2.2=0 then meanG j.inputs.length j.stages (ordV j).1 (meanI j) else []
theorem meanG_succ {ni:Int} {ss:List StageV} {l:List Int} {out:List PlaneV} {i:Nat} {n:Int} (h:l[i]?=some n):meanG ni ss (l.take (i+1)) out=(meanG ni ss (l.take i) out).set n.toNat (meanS ni ss n (meanG ni ss (l.take i) out)).1:=by
  unfold meanG;rw [List.take_add_one,h,Option.toList_some,List.foldl_append];rfl
theorem shpGo_keep {ni:Int} {ss:List StageV} {x:Int} (h0:0<=x):∀(l:List Int) (out:List Shape),(∀n∈l,0<=n/\n≠x)->(shpGo ni ss l out).2.2=0->shpAt (shpGo ni ss l out).1 x=shpAt out x
  |[],out,_,_=>rfl
  |n::l,out,h,hz=>by
    unfold shpGo at hz⊢
    split at hz
    · exact (by rename_i hs;rw [if_pos hs,shpGo_keep h0 l _ (fun m hm=>h m (by simp [hm])) hz];have hn:=h n (by simp);unfold shpAt;rw [List.getElem?_set_ne (by omega)])
    · rename_i hs;exact absurd hz hs
theorem shp_in {j:JobV} (h:(shpV j).2.2=0) {i:Nat} {p:PlaneV} (hp:j.inputs[i]?=some p):planeOK p=true/\shpAt (shpV j).1 i=shpOf p:=by
  have ho:=shp_ok h
  have hi:i<j.inputs.length:=(List.getElem?_eq_some_iff.1 hp).1
  unfold shpV at h⊢
  rw [if_pos ho.od] at h⊢
  split at h
  · rename_i ha
    rw [if_pos ha,shpGo_keep (by omega) _ _ (fun n hn=>by have:=ho.rng n hn;omega) h]
    refine ⟨List.all_eq_true.1 ha p (List.mem_of_getElem? hp),?_⟩
    unfold shpAt
    rw [List.getElem?_append_left (by rw [List.length_map];omega),List.getElem?_map,show (i:Int).toNat=i by omega,hp];rfl
  · simp at h
structure MI (j:JobV) (i:Nat) (out:List PlaneV):Prop where
  len:out.length=j.inputs.length+j.stages.length
  ok:∀n:Int,0<=n->(n<(j.inputs.length:Int)\/n∈(ordV j).1.take i)->planeOK (plAt out n)=true/\shpOf (plAt out n)=shpAt (shpV j).1 n
theorem MI.start {j:JobV} (h:(shpV j).2.2=0):MI j 0 (meanI j):=by
  refine ⟨by simp [meanI],fun n h0 hn=>?_⟩
  rcases hn with hn|hn
  · exact (by have hg:j.inputs[n.toNat]?=some (j.inputs[n.toNat]'(by omega)):=List.getElem?_eq_getElem (by omega);have e:plAt (meanI j) n=j.inputs[n.toNat]'(by omega):=(by unfold plAt meanI;rw [List.getElem?_append_left (by omega),hg];rfl);have hs:=shp_in h hg;rw [e];exact ⟨hs.1,by rw [<-hs.2,show (n.toNat:Int)=n by omega]⟩)
  · simp at hn
theorem MI.step {j:JobV} {i:Nat} {out:List PlaneV} {n:Int} (h:(shpV j).2.2=0) (m:MI j i out) (hn:(ordV j).1[i]?=some n):
  (meanS j.inputs.length j.stages n out).2=0/\planeOK (meanS j.inputs.length j.stages n out).1=true/\MI j (i+1) (out.set n.toNat (meanS j.inputs.length j.stages n out).1):=by
 have ho:=shp_ok h
 have hm:=List.mem_of_getElem? hn
 have hr:=ho.rng n hm
 have d0:=take_split hn
 have hb:=ho.bef _ _ _ d0
 have hf:=ho.fit n hm
 unfold FitP shpStep at hf
 have ha:=hb (stgAt j.stages j.inputs.length n).a (a_src _)
 have b0:=m.ok _ ha.1 ha.2
 have hq:(twoP (stgAt j.stages j.inputs.length n)->planeOK (srcB (stgAt j.stages j.inputs.length n) out)=true)/\shpOf (srcB (stgAt j.stages j.inputs.length n) out)=(if twoP (stgAt j.stages j.inputs.length n) then shpAt (shpV j).1 (stgAt j.stages j.inputs.length n).b else ⟨0,0,0⟩):=by
  unfold srcB
  by_cases ht:twoP (stgAt j.stages j.inputs.length n)
  · exact (by have a0:=hb (stgAt j.stages j.inputs.length n).b (by unfold srcs;rw [if_pos ht];simp);have c0:=m.ok _ a0.1 a0.2;rw [if_pos ht,if_pos ht];exact ⟨fun _=>c0.1,c0.2⟩)
  · exact (by rw [if_neg ht,if_neg ht];exact ⟨fun h=>absurd h ht,rfl⟩)
 rw [<-b0.2,<-hq.2] at hf
 have hs:=stg_ok b0.1 hq.1 (by rw [hf])
 rw [hf] at hs
 refine ⟨hs.1,hs.2.1,⟨by rw [List.length_set];exact m.len,fun k h0 hk=>?_⟩⟩
 have hl:=m.len
 by_cases e:k=n
 · exact (by subst e;have e2:plAt (out.set k.toNat (meanS j.inputs.length j.stages k out).1) k=(meanS j.inputs.length j.stages k out).1:=(by unfold plAt;rw [List.getElem?_set,if_pos rfl,if_pos om];rfl);rw [e2];exact hs.2)
 ·have e2:plAt (out.set n.toNat (meanS j.inputs.length j.stages n out).1) k=plAt out k:=by unfold plAt;rw [List.getElem?_set_ne om]
  rw [e2]
  refine m.ok k h0 ?_
  rcases hk with hk|hk
  ·exact .inl hk
  ·rw [List.take_add_one,hn,Option.toList_some] at hk
   rcases List.mem_append.1 hk with hk|hk
   ·exact .inr hk
   ·exact absurd (List.mem_singleton.1 hk) e
theorem mean_at {j:JobV} (h:(shpV j).2.2=0):∀i:Nat,i<=(ordV j).1.length->MI j i (meanG j.inputs.length j.stages ((ordV j).1.take i) (meanI j))
  |0,_=>MI.start h
  |i+1,hi=>by
    have hn:(ordV j).1[i]?=some ((ordV j).1[i]'(by omega)):=List.getElem?_eq_getElem (by omega)
    rw [meanG_succ hn]
    exact ((mean_at h i (by omega)).step h hn).2.2
theorem mean_ok {j:JobV} (h:(shpV j).2.2=0):(meanV j).length=j.inputs.length+j.stages.length/\∀n:Int,0<=n->n<(j.inputs.length:Int)+j.stages.length->planeOK (plAt (meanV j) n)=true/\shpOf (plAt (meanV j) n)=shpAt (shpV j).1 n:=by
  have ho:=shp_ok h
  have hm:=mean_at h (ordV j).1.length (Nat.le_refl _)
  rw [List.take_of_length_le (Nat.le_refl _)] at hm
  have e:meanV j=meanG j.inputs.length j.stages (ordV j).1 (meanI j):=if_pos h
  rw [e]
  refine ⟨hm.len,fun n h0 h1=>hm.ok n h0 ?_⟩
  by_cases hn:n<(j.inputs.length:Int)
  · exact .inl hn
  · rw [List.take_of_length_le (Nat.le_refl _)];exact .inr (ho.every n (by omega) h1)
def atV (p:PlaneV) (x y:Int):Int:=if x<0\/y<0\/p.w<=x\/p.h<=y then 0 else pixAt p x y
def leftV (own:PlaneV) (r:Rct):List Int:=(List.range (r.y1-r.y0).toNat).map fun (j:Nat)=>atV own (r.x0-1) (r.y0+(j:Int))
def topV (own:PlaneV) (r:Rct):List Int:=(List.range (r.x1-r.x0).toNat).map fun (i:Nat)=>atV own (r.x0+(i:Int)) (r.y0-1)
def sumT (p own:PlaneV) (r:Rct):PlaneV×Int:=if rIn r p.w p.h then itgT p r (leftV own r) (topV own r) (atV own (r.x0-1) (r.y0-1)) else (zPl,8)
def kerT (s:StageV) (p q:PlaneV) (r:Rct):PlaneV×Int:=
  if s.kind=1 then convT p s.edgePolicy s.edgeFill s.kW s.kH s.weights s.shift s.max_ r
  else if s.kind=2 then sepT p s.edgePolicy s.edgeFill s.row s.col s.shift s.shift2 s.max_ r
  else if s.kind=3 then resT p s.edgePolicy s.edgeFill s.x s.y s.shift s.shift2 s.max_ r
  else pwT p q (decide (twoP s)) s.ops s.max_ r
def tilT (s:StageV) (p q own:PlaneV) (r:Rct):PlaneV×Int:=if s.kind=5 then sumT p own r else kerT s p q r
def mrgN (l:List (List Int)):Int:=((l[0]?.getD []).length:Int)
def addL (a b:List Int):List Int:=List.zipWith (·+·) a b
def mrgV (l:List (List Int)):List Int:=l.foldl addL (List.replicate (mrgN l).toNat 0)
def mrgC (l:List (List Int)):Int:=
  if l.length=0\/4096<l.length then 5 else if (1<=mrgN l/\mrgN l<=128)/\l.all (fun z=>decide ((z.length:Int)=mrgN l))=true then
    (if l.all (fun z=>inM 4096 z)=true then (if (mrgV l).all (fun v=>decide (v<=4096))=true then 0 else 3) else 2) else 8
def cmpC (s:StageV) (part:Int) (p q own:PlaneV):Int:=
  if belongP s.kind part/\planeOK p=true/\(twoP s->planeOK q=true)/\(s.kind=5->planeOK own=true/\own.w=p.w/\own.h=p.h) then (ofV s (shpOf p) (shpOf q)).2 else 1
def cmpT (s:StageV) (part:Int) (r:Rct) (p q own:PlaneV) (parts:List (List Int)):List Int×Int:=
  if cmpC s part p q own=0 then
    (if part=1 then (partV p s.bins r,partC p s.bins r)
     else if part=2 then (if mrgC parts=0 then (if mrgN parts=s.bins then (mrgV parts,0) else ([],8)) else ([],mrgC parts))
     else if (tilT s p q own r).2=0 then ((tilT s p q own r).1.pix,0) else ([],(tilT s p q own r).2))
  else ([],cmpC s part p q own)
def inR2 (r:Rct) (x y:Int):Prop:=(r.x0<=x/\x<r.x1)/\r.y0<=y/\y<r.y1
instance (r:Rct) (x y:Int):Decidable (inR2 r x y):=by unfold inR2;infer_instance
def putL (own:PlaneV) (r:Rct) (pix:List Int):List Int:=gridN own.w (fun x y=>if inR2 r x y then pix.getD ((y-r.y0)*(r.x1-r.x0)+(x-r.x0)).toNat 0 else pixAt own x y) own.pix.length
def putC (own:PlaneV) (part:Int) (r:Rct) (pix:List Int):Int:=if planeOK own=true/\(part=0\/part=2) then (if rIn r own.w own.h/\(pix.length:Int)=(r.x1-r.x0)*(r.y1-r.y0) then (if inM own.max_ pix=true then 0 else 2) else 8) else 1
def putT (own:PlaneV) (part:Int) (r:Rct) (pix:List Int):PlaneV×Int:=okT (putC own part r pix) ⟨own.w,own.h,own.max_,putL own r pix⟩
theorem put_len (own:PlaneV) (r:Rct) (pix:List Int):(putL own r pix).length=own.pix.length:=grid_len _ _ _
theorem pixAt_grid {w h mx:Int} {f:Int->Int->Int} {n:Nat} (hn:(n:Int)=w*h) {x y:Int} (hx:0<=x/\x<w) (hy:0<=y/\y<h):pixAt ⟨w,h,mx,gridN w f n⟩ x y=f x y:=by
  have h1:=grid_ix (nx:=w) (i:=y) (j:=x) hx
  have h2:y*w+x<w*h:=(by have:=Int.mul_le_mul_of_nonneg_right (show y+1<=h by omega) (show 0<=w by omega);rw [Int.add_mul,Int.one_mul,Int.mul_comm h] at this;omega)
  have h0:0<=y*w:=Int.mul_nonneg hy.1 (by omega)
  unfold pixAt
  dsimp only
  rw [List.getD_eq_getElem?_getD,grid_at (by omega),show (((y*w+x).toNat:Nat):Int)=y*w+x by omega,h1.1,h1.2];rfl
theorem put_at {own:PlaneV} {r:Rct} {pix:List Int} (hl:(own.pix.length:Int)=own.w*own.h) {x y:Int} (hx:0<=x/\x<own.w) (hy:0<=y/\y<own.h):
    pixAt ⟨own.w,own.h,own.max_,putL own r pix⟩ x y=if inR2 r x y then pix.getD ((y-r.y0)*(r.x1-r.x0)+(x-r.x0)).toNat 0 else pixAt own x y:=pixAt_grid hl hx hy
theorem mk_get {r:Rct} {mx w h:Int} {f:Int->Int->Int} (hr:rIn r w h) {x y:Int} (hi:inR2 r x y):(mkPl r mx f).pix.getD ((y-r.y0)*(r.x1-r.x0)+(x-r.x0)).toNat 0=f x y:=by
  have ha:=arN_eq hr
  unfold inR2 at hi
  have h:=pixAt_grid (w:=r.x1-r.x0) (h:=r.y1-r.y0) (mx:=mx) (f:=fun i j=>f (r.x0+i) (r.y0+j)) (n:=areaN r) ha (x:=x-r.x0) (y:=y-r.y0) (by omega) (by omega)
  rw [show r.x0+(x-r.x0)=x by omega,show r.y0+(y-r.y0)=y by omega] at h
  exact h
theorem plane_ext {a b:PlaneV} (h1:shpOf a=shpOf b) (ha:(a.pix.length:Int)=a.w*a.h) (hb:(b.pix.length:Int)=b.w*b.h) (hw:1<=a.w)
  (h:∀x y,0<=x/\x<a.w->0<=y/\y<a.h->pixAt a x y=pixAt b x y):a=b:=by
 have e1:a.w=b.w:=congrArg Shape.w h1
 have e2:a.h=b.h:=congrArg Shape.h h1
 have e3:a.max_=b.max_:=congrArg Shape.max_ h1
 have hl:a.pix.length=b.pix.length:=by rw [e1,e2] at ha;omega
 have e4:a.pix=b.pix:=by
  apply List.ext_getElem?
  intro n
  by_cases hn:n<a.pix.length
  ·have hk:(n:Int)<a.w*a.h:=by omega
   have hh:1<=a.h:=by
    rcases Int.lt_or_le 0 a.h with h0|h0
    ·omega
    ·have:=Int.mul_nonneg (show 0<=a.w by omega) (show 0<=-a.h by omega);rw [Int.mul_neg] at this;omega
   have hix:=tile_ix (nx:=a.w) (ny:=a.h) (i:=(n:Int)) hw om hk
   have hp:=h ((n:Int)%a.w) ((n:Int)/a.w) hix.1 ⟨hix.2.1,hix.2.2.1⟩
   unfold pixAt at hp
   rw [<-e1,show ((n:Int)/a.w*a.w+(n:Int)%a.w).toNat=n by omega,List.getD_eq_getElem?_getD,List.getD_eq_getElem?_getD,List.getElem?_eq_getElem hn,List.getElem?_eq_getElem om] at hp
   rw [List.getElem?_eq_getElem hn,List.getElem?_eq_getElem om]
   exact congrArg some hp
  ·rw [List.getElem?_eq_none om,List.getElem?_eq_none om]
 cases a;cases b
 simp only [PlaneV.mk.injEq] at*
 exact ⟨e1,e2,e3,e4⟩
def tixV (nx tw th x y:Int):Int:=y/th*nx+x/tw
theorem tix_in {w h tw th i x y:Int} (hf:fineP w h tw th) (hi:0<=i/\i<colsN w h tw th*rowsN w h tw th) (hx:0<=x/\x<w) (hy:0<=y/\y<h):inR2 (tileV w h tw th i) x y↔tixV (colsN w h tw th) tw th x y=i:=by
 have hb:=cols_bd hf
 have hix:=tile_ix hb.1.1 hi.1 hi.2
 have a0:=hf
 unfold fineP at a0
 have dx:=Int.emod_def x tw;have c0:=Int.emod_nonneg x (show tw≠0 by omega);have d0:=Int.emod_lt_of_pos x (show 0<tw by omega)
 have dy:=Int.emod_def y th;have e0:=Int.emod_nonneg y (show th≠0 by omega);have f0:=Int.emod_lt_of_pos y (show 0<th by omega)
 have b0:0<=x/tw/\x/tw<colsN w h tw th:=(by refine ⟨Int.ediv_nonneg hx.1 om,?_⟩;have g0:=ceil_ge (a:=w) (b:=tw) om om;have hc:colsN w h tw th=ceilV w tw:=(by unfold colsN;rw [if_pos hf]);rw [hc];exact Int.ediv_lt_of_lt_mul om om)
 have hq:=grid_ix (nx:=colsN w h tw th) (i:=y/th) (j:=x/tw) b0
 unfold tixV
 constructor
 · exact (by intro hin;unfold inR2 tileV at hin;dsimp only at hin;have e1:x/tw=i%colsN w h tw th:=(by have l1:i%colsN w h tw th<=x/tw:=(Int.le_ediv_iff_mul_le om).2 hin.1.1;have l2:x/tw<i%colsN w h tw th+1:=Int.ediv_lt_of_lt_mul om (by rw [Int.add_mul,Int.one_mul];omega);omega);have e2:y/th=i/colsN w h tw th:=(by have l1:i/colsN w h tw th<=y/th:=(Int.le_ediv_iff_mul_le om).2 hin.2.1;have l2:y/th<i/colsN w h tw th+1:=Int.ediv_lt_of_lt_mul om (by rw [Int.add_mul,Int.one_mul];omega);omega);rw [e1,e2];exact hix.2.2.2.symm)
 · exact (by intro e;have e1:i%colsN w h tw th=x/tw:=(by rw [<-e];exact hq.1);have e2:i/colsN w h tw th=y/th:=(by rw [<-e];exact hq.2);unfold inR2 tileV;dsimp only;rw [e1,e2,Int.mul_comm (x/tw),Int.mul_comm (y/th)];omega)
structure AsmP (W own:PlaneV) (nx tw th:Int) (i:Int):Prop where
  shp:shpOf own=shpOf W
  len:(own.pix.length:Int)=own.w*own.h
  pix:∀x y,0<=x/\x<W.w->0<=y/\y<W.h->pixAt own x y=if tixV nx tw th x y<i then pixAt W x y else 0
theorem AsmP.start {W:PlaneV} {nx tw th:Int} {n:Nat} (hn:(n:Int)=W.w*W.h) (h0:0<=nx/\1<=tw/\1<=th):AsmP W ⟨W.w,W.h,W.max_,List.replicate n 0⟩ nx tw th 0:=by
 refine ⟨rfl,by dsimp only;rw [List.length_replicate];exact hn,fun x y hx hy=>?_⟩
 have h1:0<=tixV nx tw th x y:=(by unfold tixV;have a:=Int.mul_nonneg (Int.ediv_nonneg hy.1 (show 0<=th by omega)) h0.1;have b:=Int.ediv_nonneg hx.1 (show 0<=tw by omega);omega)
 rw [if_neg om]
 unfold pixAt
 dsimp only
 rw [List.getD_eq_getElem?_getD]
 cases e:(List.replicate n (0:Int))[(y*W.w+x).toNat]? with
 |none=>rfl
 |some z=>exact List.eq_of_mem_replicate (List.mem_of_getElem? e)
section
variable {W own:PlaneV} {tw th i:Int} (hf:fineP W.w W.h tw th) (h:AsmP W own (colsN W.w W.h tw th) tw th i)
include hf h
theorem AsmP.put (hi:0<=i/\i<colsN W.w W.h tw th*rowsN W.w W.h tw th) {pix:List Int}
  (hp:∀x y,inR2 (tileV W.w W.h tw th i) x y->pix.getD ((y-(tileV W.w W.h tw th i).y0)*((tileV W.w W.h tw th i).x1-(tileV W.w W.h tw th i).x0)+(x-(tileV W.w W.h tw th i).x0)).toNat 0=pixAt W x y):
  AsmP W ⟨own.w,own.h,own.max_,putL own (tileV W.w W.h tw th i) pix⟩ (colsN W.w W.h tw th) tw th (i+1):=by
 have e1:own.w=W.w:=congrArg Shape.w h.shp
 have e2:own.h=W.h:=congrArg Shape.h h.shp
 refine ⟨h.shp,by dsimp only;rw [put_len];exact h.len,fun x y hx hy=>?_⟩
 rw [put_at h.len (by rw [e1];exact hx) (by rw [e2];exact hy)]
 have ht:=tix_in hf hi hx hy
 by_cases a0:inR2 (tileV W.w W.h tw th i) x y
 ·rw [if_pos a0,hp x y a0,if_pos (by have:=ht.1 a0;omega)]
 ·rw [if_neg a0,h.pix x y hx hy]
  have b0:¬tixV (colsN W.w W.h tw th) tw th x y=i:=fun e=>a0 (ht.2 e)
  by_cases hl:tixV (colsN W.w W.h tw th) tw th x y<i
  ·rw [if_pos hl,if_pos om]
  ·rw [if_neg hl,if_neg om]
end
theorem sumN_split (f:Nat->Int) (m:Nat):∀n:Nat,sumN f (m+n)=sumN f m+sumN (fun k=>f (m+k)) n
  |0=>by rw [sumN_zero,Nat.add_zero,Int.add_zero]
  |n+1=>by rw [<-Nat.add_assoc,sumN_succ,sumN_succ,sumN_split f m n];omega
def recF (f:Int->Int->Int) (x y:Int) (i j:Nat):Int:=sumN (fun a=>sumN (fun b=>f (x+a) (y+b)) j) i
theorem recS_F (p:PlaneV) (x y:Int) (i j:Nat):recS p x y i j=recF (pixAt p) x y i j:=rfl
theorem recF_cols (f:Int->Int->Int) (x y:Int) (i k j:Nat):recF f x y (i+k) j=recF f x y i j+recF f (x+i) y k j:=by
  unfold recF
  rw [sumN_split]
  congr 1
  exact sumN_congr k (fun a _=>by rw [show x+((i+a:Nat):Int)=x+(i:Int)+(a:Int) by push_cast;omega])
theorem recF_rows (f:Int->Int->Int) (x y:Int) (i j k:Nat):recF f x y i (j+k)=recF f x y i j+recF f x (y+j) i k:=by
  unfold recF
  rw [<-sumN_add]
  exact sumN_congr i (fun a _=>(by rw [sumN_split];congr 1;exact sumN_congr k (fun b _=>by rw [show y+((j+b:Nat):Int)=y+(j:Int)+(b:Int) by push_cast;omega])))
theorem recF_zero_i (f:Int->Int->Int) (x y:Int) (j:Nat):recF f x y 0 j=0:=rfl
theorem recF_zero_j (f:Int->Int->Int) (x y:Int) (i:Nat):recF f x y i 0=0:=by unfold recF;simp only [sumN_zero];exact sumN_nil i
def RW (p:PlaneV) (a b:Int):Int:=recF (pixAt p) 0 0 a.toNat b.toNat
theorem RW_0 {p:PlaneV} {a b:Int} (h:a<=0\/b<=0):RW p a b=0:=by
  unfold RW
  rcases h with h|h
  · rw [show a.toNat=0 by omega];exact recF_zero_i _ _ _ _
  · rw [show b.toNat=0 by omega];exact recF_zero_j _ _ _ _
theorem RW_part {p:PlaneV} {x y:Int} {i j:Nat} (hx:0<=x) (hy:0<=y):recS p x y i j=RW p (x+i) (y+j)-RW p x (y+j)-RW p (x+i) y+RW p x y:=by
  unfold RW
  rw [recS_F,show (x+(i:Int)).toNat=x.toNat+i by omega,show (y+(j:Int)).toNat=y.toNat+j by omega]
  have e1:=recF_cols (pixAt p) 0 0 x.toNat i (y.toNat+j)
  have e2:=recF_rows (pixAt p) (0+(x.toNat:Int)) 0 i y.toNat j
  have e3:=recF_cols (pixAt p) 0 0 x.toNat i y.toNat
  rw [show (0:Int)+(x.toNat:Int)=x by omega] at e1 e2 e3
  rw [show (0:Int)+(y.toNat:Int)=y by omega] at e2
  omega
theorem RW_bd {p:PlaneV} (hp:planeOK p=true) {a b:Int} (ha:a<=p.w) (hb:b<=p.h) (hm:mostOK p.w p.h p.max_=true):0<=RW p a b/\RW p a b<=mostV p.w p.h p.max_:=by
 have hs:=(plane_sz hp).1;unfold sizeP at hs
 have hv:mostV p.w p.h p.max_=p.w*p.h*p.max_:=by unfold mostV;rw [if_pos hm]
 have h:=rec_bd hp 0 0 a.toNat b.toNat
 have h1:p.max_*(b.toNat:Int)<=p.max_*p.h:=Int.mul_le_mul_of_nonneg_left om om
 have h0:0<=p.max_*p.h:=Int.mul_nonneg om om
 have h2:p.max_*(b.toNat:Int)*(a.toNat:Int)<=p.max_*p.h*p.w:=Int.mul_le_mul h1 om om h0
 rw [hv,show p.w*p.h*p.max_=p.max_*p.h*p.w by rw [Int.mul_comm (p.w*p.h),Int.mul_comm p.w,Int.mul_assoc]]
 exact ⟨h.1,Int.le_trans h.2 h2⟩
theorem itg_at {p:PlaneV} (hp:planeOK p=true) {x y:Int} (hx:0<=x/\x<p.w) (hy:0<=y/\y<p.h) (hm:mostOK p.w p.h p.max_=true):pixAt (itgW p).1 x y=RW p (x+1) (y+1):=by
  have ha:=all_in hp
  have hn:((p.w*p.h).toNat:Int)=p.w*p.h:=by have:=ha.2;omega
  unfold itgW
  rw [if_pos hp,if_pos hm,okT_0 rfl,pixAt_grid hn hx hy]
  unfold RW
  rw [recS_F,show x.toNat+1=(x+1).toNat by omega,show y.toNat+1=(y+1).toNat by omega]
theorem itg_tile {p own:PlaneV} {r:Rct} (hp:planeOK p=true) (hm:mostOK p.w p.h p.max_=true) (hr:rIn r p.w p.h)
  (hl:∀y,r.y0<=y->y<r.y1->atV own (r.x0-1) y=RW p r.x0 (y+1)) (ht:∀x,r.x0<=x->x<r.x1->atV own x (r.y0-1)=RW p (x+1) r.y0) (hc:atV own (r.x0-1) (r.y0-1)=RW p r.x0 r.y0):
  (sumT p own r).2=0/\(sumT p own r).1.pix.length=areaN r/\∀x y,inR2 r x y->(sumT p own r).1.pix.getD ((y-r.y0)*(r.x1-r.x0)+(x-r.x0)).toNat 0=RW p (x+1) (y+1):=by
 have g0:=hr
 unfold rIn at g0
 have e0:(leftV own r).length=(r.y1-r.y0).toNat/\(topV own r).length=(r.x1-r.x0).toNat:=by simp [leftV,topV]
 have f0:∀j:Nat,(j:Int)<r.y1-r.y0->(leftV own r).getD j 0=RW p r.x0 (r.y0+j+1):=fun j hj=>by
  unfold leftV
  rw [List.getD_eq_getElem?_getD,List.getElem?_map,List.getElem?_range om]
  exact hl _ om om
 have h0:∀i:Nat,(i:Int)<r.x1-r.x0->(topV own r).getD i 0=RW p (r.x0+i+1) r.y0:=fun i hi=>by
  unfold topV
  rw [List.getD_eq_getElem?_getD,List.getElem?_map,List.getElem?_range om]
  exact ht _ om om
 have hX:∀i j:Int,0<=i->i<r.x1-r.x0->0<=j->j<r.y1-r.y0->itgX p (leftV own r) (topV own r) (atV own (r.x0-1) (r.y0-1)) r i j=RW p (r.x0+i+1) (r.y0+j+1):=fun i j h1 h2 h3 h4=>by
  unfold itgX
  rw [f0 _ om,h0 _ om,hc,RW_part om om]
  rw [show r.x0+((i.toNat+1:Nat):Int)=r.x0+i+1 by omega,show r.y0+((j.toNat+1:Nat):Int)=r.y0+j+1 by omega,show r.y0+(j.toNat:Int)+1=r.y0+j+1 by omega,show r.x0+(i.toNat:Int)+1=r.x0+i+1 by omega]
  omega
 have hA:=arN_eq hr
 have hix:∀k:Nat,k<areaN r->(0<=(k:Int)%(r.x1-r.x0)/\(k:Int)%(r.x1-r.x0)<r.x1-r.x0)/\0<=(k:Int)/(r.x1-r.x0)/\(k:Int)/(r.x1-r.x0)<r.y1-r.y0:=fun k hk=>by
  have h:=tile_ix (nx:=r.x1-r.x0) (ny:=r.y1-r.y0) (i:=(k:Int)) om om om
  exact ⟨h.1,h.2.1,h.2.2.1⟩
 have a0:∀a b:Int,a<=p.w->b<=p.h->decide (0<=RW p a b/\RW p a b<=mostV p.w p.h p.max_)=true:=fun a b h1 h2=>decide_eq_true (RW_bd hp h1 h2 hm)
 have d0:inM (mostV p.w p.h p.max_) (itgL p (leftV own r) (topV own r) (atV own (r.x0-1) (r.y0-1)) r)=true:=(by unfold inM itgL;rw [List.all_eq_true];intro z hz;obtain ⟨k,hk,rfl⟩:=grid_mem hz;have h:=hix k hk;rw [hX _ _ h.1.1 h.1.2 h.2.1 h.2.2];exact a0 _ _ om om)
 have b0:inM (mostV p.w p.h p.max_) (atV own (r.x0-1) (r.y0-1)::leftV own r++topV own r)=true:=by
  unfold inM
  rw [List.all_eq_true]
  intro z hz
  rcases List.mem_append.1 hz with hz|hz
  ·rcases List.mem_cons.1 hz with rfl|hz
   ·rw [hc];exact a0 _ _ om om
   · exact (by unfold leftV at hz;obtain ⟨j,hj,rfl⟩:=List.mem_map.1 hz;have:=List.mem_range.1 hj;rw [hl _ om om];exact a0 _ _ om om)
  · exact (by unfold topV at hz;obtain ⟨j,hj,rfl⟩:=List.mem_map.1 hz;have:=List.mem_range.1 hj;rw [ht _ om om];exact a0 _ _ om om)
 have c0:itgC p r (leftV own r) (topV own r) (atV own (r.x0-1) (r.y0-1))=0:=(by unfold itgC;rw [if_pos hp,if_pos hm,if_pos ⟨hr,om,om⟩,if_pos ⟨b0,d0⟩])
 have e:sumT p own r=(⟨r.x1-r.x0,r.y1-r.y0,mostV p.w p.h p.max_,itgL p (leftV own r) (topV own r) (atV own (r.x0-1) (r.y0-1)) r⟩,0):=(by unfold sumT itgT;rw [if_pos hr,okT_0 c0])
 rw [e]
 exact ⟨rfl,grid_len _ _ _,fun x y hi=>(by unfold inR2 at hi;have hg:=pixAt_grid (w:=r.x1-r.x0) (h:=r.y1-r.y0) (mx:=0) (f:=itgX p (leftV own r) (topV own r) (atV own (r.x0-1) (r.y0-1)) r) (n:=areaN r) hA (x:=x-r.x0) (y:=y-r.y0) om om;rw [hX _ _ om om om om,show r.x0+(x-r.x0)+1=x+1 by omega,show r.y0+(y-r.y0)+1=y+1 by omega] at hg;exact hg)⟩
theorem mk_at {w h mx:Int} {f:Int->Int->Int} (hw:1<=w/\1<=h) {x y:Int} (hx:0<=x/\x<w) (hy:0<=y/\y<h):pixAt (mkPl ⟨0,0,w,h⟩ mx f) x y=f x y:=by
  have hr:rIn ⟨0,0,w,h⟩ w h:=by unfold rIn;dsimp only;omega
  have hA:=arN_eq hr
  have h1:=pixAt_grid (w:=w-0) (h:=h-0) (mx:=mx) (f:=fun i j=>f (0+i) (0+j)) (n:=areaN ⟨0,0,w,h⟩) hA (x:=x) (y:=y) (by omega) (by omega)
  rw [Int.zero_add,Int.zero_add] at h1
  exact h1
theorem mk_len (r:Rct) (mx:Int) (f:Int->Int->Int):(mkPl r mx f).pix.length=areaN r:=by simp [mkPl,grid_len]
theorem ker_all {s:StageV} {p q:PlaneV} (hp:planeOK p=true) (hq:twoP s->planeOK q=true) (h:(ofV s (shpOf p) (shpOf q)).2=0) (hk:¬s.kind=4/\¬s.kind=5):
  ∃X:Int->Int->Int,(∀x y,0<=X x y/\X x y<=s.max_)/\(stgT s p q).1=mkPl ⟨0,0,(ofV s (shpOf p) (shpOf q)).1.w,(ofV s (shpOf p) (shpOf q)).1.h⟩ s.max_ X/\
   ∀r,rIn r (ofV s (shpOf p) (shpOf q)).1.w (ofV s (shpOf p) (shpOf q)).1.h->kerT s p q r=(mkPl r s.max_ X,0):=by
 have c0:=stg_ok hp hq h
 have hs:=(plane_sz hp).1;unfold sizeP at hs
 have hW:=(plane_sz c0.2.1).1;unfold sizeP at hW
 have hw:(stgT s p q).1.w=(ofV s (shpOf p) (shpOf q)).1.w:=congrArg Shape.w c0.2.2
 have hh:(stgT s p q).1.h=(ofV s (shpOf p) (shpOf q)).1.h:=congrArg Shape.h c0.2.2
 rw [hw,hh] at hW
 have a0:rIn ⟨0,0,(ofV s (shpOf p) (shpOf q)).1.w,(ofV s (shpOf p) (shpOf q)).1.h⟩ (ofV s (shpOf p) (shpOf q)).1.w (ofV s (shpOf p) (shpOf q)).1.h:=by unfold rIn;dsimp only;omega
 have e0:∃X:Int->Int->Int,(∀x y,0<=X x y/\X x y<=s.max_)/\∀r,rIn r (ofV s (shpOf p) (shpOf q)).1.w (ofV s (shpOf p) (shpOf q)).1.h->kerT s p q r=(mkPl r s.max_ X,0):=by
  clear c0 hw hh a0
  unfold ofV at h hW⊢
  split at h
  ·rename_i hf
   rw [if_pos hf] at hW⊢
   split at h
   ·rename_i hz
    rw [if_pos hz] at hW⊢
    split at h
    ·rename_i hed
     rw [if_pos hed] at hW⊢
     split at h
     ·rename_i hk0
      rw [if_pos hk0] at hW⊢
      have hE:s.kind=1\/s.kind=2\/s.kind=3->edgeV s.edgePolicy s.edgeFill p.max_:=fun h=>(hed.resolve_left (fun hn=>hn h))
      refine bD (s.kind=1) (fun h1=>(by have hv:kernelV s (shpOf p) (shpOf q)=(⟨p.w,p.h,s.max_⟩,convCode p.max_ s.kW s.kH s.weights s.shift s.max_):=(by unfold kernelV;rw [if_pos h1];rfl);rw [hv] at hk0 hW⊢;have ho:=(conv_ok hk0).2.2.2.2.1;exact ⟨convX p s.edgePolicy s.edgeFill s.kW s.kH s.weights s.shift s.max_,fun x y=>clamp_bd om,fun r hr=>(by unfold kerT;rw [if_pos h1];exact (conv_whole hp (hE (.inl h1)) hk0 hr (rIn_area hr hW.2.2.2.2.1)).1)⟩)) fun h1=>bD (s.kind=2) (fun h2=>(by have hv:kernelV s (shpOf p) (shpOf q)=(⟨p.w,p.h,s.max_⟩,sepCode p.max_ s.row s.col s.shift s.shift2 s.max_):=(by unfold kernelV;rw [if_neg h1,if_pos h2];rfl);rw [hv] at hk0 hW⊢;have ho:=(sep_ok hk0).2.2.1;exact ⟨sepX p s.edgePolicy s.edgeFill s.row s.col s.shift s.shift2 s.max_,fun x y=>clamp_bd om,fun r hr=>(by unfold kerT;rw [if_neg h1,if_pos h2];exact (sep_whole hp (hE (.inr (.inl h2))) hk0 hr (rIn_area hr hW.2.2.2.2.1)).1)⟩)) fun h2=>bD (s.kind=3) (fun h3=>(by have hv:kernelV s (shpOf p) (shpOf q)=(⟨s.x.length,s.y.length,s.max_⟩,resCode p.w p.h p.max_ s.x s.y s.shift s.shift2 s.max_):=(by unfold kernelV;rw [if_neg h1,if_neg h2,if_pos h3];rfl);rw [hv] at hk0 hW⊢;have ho:=(res_ok hk0).2.2.2.2.1;exact ⟨resX p s.edgePolicy s.edgeFill s.x s.y s.shift s.shift2 s.max_,fun x y=>clamp_bd om,fun r hr=>(by unfold kerT;rw [if_neg h1,if_neg h2,if_pos h3];exact (res_whole hp (hE (.inr (.inr h3))) hk0 hr (rIn_area hr hW.2.2.2.2.1)).1)⟩)) fun h3=>?_
      by_cases b0:pwCode s.ops (decide (twoP s)) p.max_ q.max_ s.max_=0
      ·by_cases d0:twoP s/\¬(p.w=q.w/\p.h=q.h)
       · exact (by have hv:(kernelV s (shpOf p) (shpOf q)).2=8:=(by unfold kernelV;rw [if_neg h1,if_neg h2,if_neg h3,if_neg hk.1,if_neg hk.2,if_pos (show pwCode s.ops (decide (s.kind=6/\¬s.b=-1)) (shpOf p).max_ (shpOf q).max_ s.max_=0 from b0),if_pos (show (s.kind=6/\¬s.b=-1)/\¬((shpOf p).w=(shpOf q).w/\(shpOf p).h=(shpOf q).h) from d0)]);omega)
       · exact (by have hv:kernelV s (shpOf p) (shpOf q)=(⟨p.w,p.h,s.max_⟩,0):=(by unfold kernelV;rw [if_neg h1,if_neg h2,if_neg h3,if_neg hk.1,if_neg hk.2,if_pos (show pwCode s.ops (decide (s.kind=6/\¬s.b=-1)) (shpOf p).max_ (shpOf q).max_ s.max_=0 from b0),if_neg (show ¬((s.kind=6/\¬s.b=-1)/\¬((shpOf p).w=(shpOf q).w/\(shpOf p).h=(shpOf q).h)) from d0)];rfl);rw [hv] at hW⊢;have ho:=opsCode_out b0;exact ⟨pwX p q (decide (twoP s)) s.ops s.max_,fun x y=>clamp_bd om,fun r hr=>(by unfold kerT;rw [if_neg h1,if_neg h2,if_neg h3];exact (pw_whole hp (fun h=>hq (of_decide_eq_true h)) b0 (fun h=>Classical.not_not.1 (fun hn=>d0 ⟨of_decide_eq_true h,hn⟩)) hr (rIn_area hr hW.2.2.2.2.1)).1)⟩)
      · exact (by have hv:(kernelV s (shpOf p) (shpOf q)).2=pwCode s.ops (decide (twoP s)) p.max_ q.max_ s.max_:=(by unfold kernelV;rw [if_neg h1,if_neg h2,if_neg h3,if_neg hk.1,if_neg hk.2,if_neg (show ¬pwCode s.ops (decide (s.kind=6/\¬s.b=-1)) (shpOf p).max_ (shpOf q).max_ s.max_=0 from b0)];rfl);exact absurd (hv.symm.trans hk0) b0)
     ·omega
    ·omega
   ·omega
  ·omega
 obtain ⟨X,hX,hr⟩:=e0
 exact ⟨X,hX,(by have e:=hr _ a0;have es:(stgT s p q).1=(kerT s p q ⟨0,0,(ofV s (shpOf p) (shpOf q)).1.w,(ofV s (shpOf p) (shpOf q)).1.h⟩).1:=(by unfold stgT kerT;rw [if_pos ⟨hp,hq⟩,if_pos h,if_neg hk.1,if_neg hk.2]);rw [es,e]),hr⟩
theorem ker_tile {s:StageV} {p q:PlaneV} {r:Rct} (hp:planeOK p=true) (hq:twoP s->planeOK q=true) (h:(ofV s (shpOf p) (shpOf q)).2=0) (hk:¬s.kind=4/\¬s.kind=5) (hr:rIn r (stgT s p q).1.w (stgT s p q).1.h):
  (kerT s p q r).2=0/\(kerT s p q r).1.pix.length=areaN r/\∀x y,inR2 r x y->(kerT s p q r).1.pix.getD ((y-r.y0)*(r.x1-r.x0)+(x-r.x0)).toNat 0=pixAt (stgT s p q).1 x y:=by
 obtain ⟨X,_,hW,ha⟩:=ker_all hp hq h hk
 have a0:=stg_ok hp hq h
 have hw:(stgT s p q).1.w=(ofV s (shpOf p) (shpOf q)).1.w:=congrArg Shape.w a0.2.2
 have hh:(stgT s p q).1.h=(ofV s (shpOf p) (shpOf q)).1.h:=congrArg Shape.h a0.2.2
 rw [hw,hh] at hr
 have b0:=hr;unfold rIn at b0
 rw [ha r hr,hW]
 exact ⟨rfl,mk_len r s.max_ X,fun x y hi=>(by dsimp only;rw [mk_get hr hi,mk_at om (by unfold inR2 at hi;omega) (by unfold inR2 at hi;omega)])⟩
theorem AsmP.ok {W own:PlaneV} {nx tw th i:Int} (h:AsmP W own nx tw th i) (hW:planeOK W=true):planeOK own=true:=by
 have e1:own.w=W.w:=congrArg Shape.w h.shp
 have e2:own.h=W.h:=congrArg Shape.h h.shp
 have e3:own.max_=W.max_:=congrArg Shape.max_ h.shp
 have hs:=(plane_sz hW).1
 have b0:=hs;unfold sizeP at b0
 refine plane_mk (by rw [e1,e2,e3];exact hs) h.len (fun z hz=>?_)
 obtain ⟨n,hn⟩:=List.getElem?_of_mem hz
 have hl:n<own.pix.length:=(List.getElem?_eq_some_iff.1 hn).1
 have a0:=h.len
 rw [e1,e2] at a0
 have hix:=tile_ix (nx:=W.w) (ny:=W.h) (i:=(n:Int)) om om om
 have hp:=h.pix ((n:Int)%W.w) ((n:Int)/W.w) hix.1 ⟨hix.2.1,hix.2.2.1⟩
 have c0:pixAt own ((n:Int)%W.w) ((n:Int)/W.w)=z:=(by unfold pixAt;rw [e1,show ((n:Int)/W.w*W.w+(n:Int)%W.w).toNat=n by omega,List.getD_eq_getElem?_getD,hn];rfl)
 rw [c0] at hp
 rw [e3,hp]
 split
 ·exact pixAt_bd hW _ _
 ·omega
theorem ediv_eq {a b c:Int} (hb:0<b) (h1:c*b<=a) (h2:a<c*b+b):a/b=c:=by
  have l1:c<=a/b:=(Int.le_ediv_iff_mul_le hb).2 h1
  have l2:a/b<c+1:=Int.ediv_lt_of_lt_mul hb (by rw [Int.add_mul,Int.one_mul];omega)
  omega
theorem asm_at {p own:PlaneV} {nx tw th i:Int} (hp:planeOK p=true) (hm:mostOK p.w p.h p.max_=true) (h:AsmP (itgW p).1 own nx tw th i) {x y:Int} (hx:x<p.w) (hy:y<p.h) (ht:x<0\/y<0\/tixV nx tw th x y<i):
  atV own x y=RW p (x+1) (y+1):=by
 have hw:=itg_whole hp hm
 have e1:own.w=p.w:=(congrArg Shape.w h.shp).trans (congrArg Shape.w hw.2.2)
 have e2:own.h=p.h:=(congrArg Shape.h h.shp).trans (congrArg Shape.h hw.2.2)
 have e3:(itgW p).1.w=p.w:=congrArg Shape.w hw.2.2
 have e4:(itgW p).1.h=p.h:=congrArg Shape.h hw.2.2
 unfold atV
 by_cases hn:x<0\/y<0
 ·rw [if_pos om,RW_0 om]
 ·rw [if_neg om,h.pix x y om om,if_pos om,itg_at hp om om hm]
theorem asm_beside {p own:PlaneV} {tw th i:Int} (hp:planeOK p=true) (hm:mostOK p.w p.h p.max_=true) (hf:fineP p.w p.h tw th) (h:AsmP (itgW p).1 own (colsN p.w p.h tw th) tw th i) (hi:0<=i/\i<colsN p.w p.h tw th*rowsN p.w p.h tw th):
  rIn (tileV p.w p.h tw th i) p.w p.h/\(∀y,(tileV p.w p.h tw th i).y0<=y->y<(tileV p.w p.h tw th i).y1->atV own ((tileV p.w p.h tw th i).x0-1) y=RW p (tileV p.w p.h tw th i).x0 (y+1))/\
   (∀x,(tileV p.w p.h tw th i).x0<=x->x<(tileV p.w p.h tw th i).x1->atV own x ((tileV p.w p.h tw th i).y0-1)=RW p (x+1) (tileV p.w p.h tw th i).y0)/\atV own ((tileV p.w p.h tw th i).x0-1) ((tileV p.w p.h tw th i).y0-1)=RW p (tileV p.w p.h tw th i).x0 (tileV p.w p.h tw th i).y0:=by
 have hb:=cols_bd hf
 have hix:=tile_ix hb.1.1 hi.1 hi.2
 have f0:=tile_in hf hi.1 hi.2
 have a0:=f0.1
 unfold inP at a0
 have k0:=hf
 unfold fineP at k0
 obtain ⟨nx,j0⟩:∃z,z=colsN p.w p.h tw th:=⟨_,rfl⟩
 obtain ⟨cx,c0⟩:∃z,z=i%colsN p.w p.h tw th:=⟨_,rfl⟩
 obtain ⟨cy,d0⟩:∃z,z=i/colsN p.w p.h tw th:=⟨_,rfl⟩
 obtain ⟨r,hr⟩:∃z,z=tileV p.w p.h tw th i:=⟨_,rfl⟩
 have l0:r.x0=cx*tw:=by rw [hr,c0];rfl
 have n0:r.y0=cy*th:=by rw [hr,d0];rfl
 have m0:r.x1<=cx*tw+tw:=by rw [hr,c0];exact Int.min_le_left _ _
 have o0:r.y1<=cy*th+th:=by rw [hr,d0];exact Int.min_le_left _ _
 rw [<-hr] at f0 a0⊢
 rw [<-j0] at h
 rw [<-c0,<-d0,<-j0] at hix
 have e0:∀y,r.y0<=y->y<r.y1->y/th=cy:=fun y h1 h2=>ediv_eq om om om
 have b0:∀x,r.x0<=x->x<r.x1->x/tw=cx:=fun x h1 h2=>ediv_eq om om om
 have g0:0<r.x0->(r.x0-1)/tw=cx-1:=fun h0=>ediv_eq om (by rw [Int.sub_mul,Int.one_mul];omega) (by rw [Int.sub_mul,Int.one_mul];omega)
 have i0:0<r.y0->(r.y0-1)/th=cy-1:=fun h0=>ediv_eq om (by rw [Int.sub_mul,Int.one_mul];omega) (by rw [Int.sub_mul,Int.one_mul];omega)
 refine ⟨by unfold rIn;omega,fun y h1 h2=>?_,fun x h1 h2=>?_,?_⟩
 ·have e:=asm_at hp hm h (x:=r.x0-1) (y:=y) om om (by
   by_cases h0:0<r.x0
   ·exact .inr (.inr (by unfold tixV;rw [e0 y h1 h2,g0 h0];omega))
   ·exact .inl om)
  rw [e,show r.x0-1+1=r.x0 by omega]
 ·have e:=asm_at hp hm h (x:=x) (y:=r.y0-1) om om (by
   by_cases h0:0<r.y0
   ·exact .inr (.inr (by unfold tixV;rw [b0 x h1 h2,i0 h0,Int.sub_mul,Int.one_mul];omega))
   ·exact .inr (.inl om))
  rw [e,show r.y0-1+1=r.y0 by omega]
 ·have e:=asm_at hp hm h (x:=r.x0-1) (y:=r.y0-1) om om (by
   by_cases h0:0<r.x0
   ·by_cases h3:0<r.y0
    ·exact .inr (.inr (by unfold tixV;rw [g0 h0,i0 h3,Int.sub_mul,Int.one_mul];omega))
    ·exact .inr (.inl om)
   ·exact .inl om)
  rw [e,show r.x0-1+1=r.x0 by omega,show r.y0-1+1=r.y0 by omega]
theorem asm_step {s:StageV} {p q own:PlaneV} {tw th i:Int} (hp:planeOK p=true) (hq:twoP s->planeOK q=true) (h:(ofV s (shpOf p) (shpOf q)).2=0) (hk:¬s.kind=4) (hf:fineP (stgT s p q).1.w (stgT s p q).1.h tw th)
  (ha:AsmP (stgT s p q).1 own (colsN (stgT s p q).1.w (stgT s p q).1.h tw th) tw th i) (hi:0<=i/\i<colsN (stgT s p q).1.w (stgT s p q).1.h tw th*rowsN (stgT s p q).1.w (stgT s p q).1.h tw th):
  (tilT s p q own (tileV (stgT s p q).1.w (stgT s p q).1.h tw th i)).2=0/\putC own 0 (tileV (stgT s p q).1.w (stgT s p q).1.h tw th i) (tilT s p q own (tileV (stgT s p q).1.w (stgT s p q).1.h tw th i)).1.pix=0/\
   AsmP (stgT s p q).1 (putT own 0 (tileV (stgT s p q).1.w (stgT s p q).1.h tw th i) (tilT s p q own (tileV (stgT s p q).1.w (stgT s p q).1.h tw th i)).1.pix).1 (colsN (stgT s p q).1.w (stgT s p q).1.h tw th) tw th (i+1):=by
 have g0:=stg_ok hp hq h
 obtain ⟨r,hr⟩:∃z,z=tileV (stgT s p q).1.w (stgT s p q).1.h tw th i:=⟨_,rfl⟩
 obtain ⟨W,hW⟩:∃z,z=(stgT s p q).1:=⟨_,rfl⟩
 have e0:=tile_in hf hi.1 hi.2
 have a0:=e0.1
 unfold inP at a0
 rw [<-hW] at hf ha hi e0 a0 hr g0⊢
 rw [<-hr] at e0 a0⊢
 have d0:rIn r W.w W.h:=by unfold rIn;omega
 have b0:(tilT s p q own r).2=0/\(tilT s p q own r).1.pix.length=areaN r/\∀x y,inR2 r x y->(tilT s p q own r).1.pix.getD ((y-r.y0)*(r.x1-r.x0)+(x-r.x0)).toNat 0=pixAt W x y:=by
  unfold tilT
  by_cases h5:s.kind=5
  ·rw [if_pos h5]
   have hm:mostOK p.w p.h p.max_=true:=by
    by_cases hm:mostOK p.w p.h p.max_=true
    ·exact hm
    ·exfalso
     have hv:(kernelV s (shpOf p) (shpOf q)).2=11:=by unfold kernelV;rw [if_neg om,if_neg om,if_neg om,if_neg hk,if_pos h5,if_neg (show ¬mostOK (shpOf p).w (shpOf p).h (shpOf p).max_=true from hm)]
     unfold ofV at h
     split at h
     ·split at h
      ·split at h
       ·split at h
        ·omega
        ·rename_i hn;exact hn h
       ·omega
      ·omega
     ·omega
   have eW:W=(itgW p).1:=by rw [hW];unfold stgT;rw [if_pos ⟨hp,hq⟩,if_pos h,if_neg hk,if_pos h5]
   have hw:=itg_whole hp hm
   have e3:W.w=p.w:=by rw [eW];exact congrArg Shape.w hw.2.2
   have e4:W.h=p.h:=by rw [eW];exact congrArg Shape.h hw.2.2
   rw [e3,e4] at hf ha hi hr d0
   rw [eW] at ha
   have c0:=asm_beside hp hm hf ha hi
   rw [<-hr] at c0
   have ht:=itg_tile hp hm c0.1 c0.2.1 c0.2.2.1 c0.2.2.2
   exact ⟨ht.1,ht.2.1,fun x y h0=>(by rw [ht.2.2 x y h0,eW,itg_at hp (by unfold inR2 at h0;omega) (by unfold inR2 at h0;omega) hm])⟩
  · exact (by rw [if_neg h5];rw [hW] at d0⊢;exact ker_tile hp hq h ⟨hk,h5⟩ d0)
 have e1:own.w=W.w:=congrArg Shape.w ha.shp
 have e2:own.h=W.h:=congrArg Shape.h ha.shp
 have e3:own.max_=W.max_:=congrArg Shape.max_ ha.shp
 have hA:=arN_eq d0
 have f0:inM own.max_ (tilT s p q own r).1.pix=true:=(by unfold inM;rw [List.all_eq_true];intro z hz;obtain ⟨n,hn⟩:=List.getElem?_of_mem hz;have hl:n<areaN r:=(by rw [<-b0.2.1];exact (List.getElem?_eq_some_iff.1 hn).1);have hix:=tile_ix (nx:=r.x1-r.x0) (ny:=r.y1-r.y0) (i:=(n:Int)) om om om;have hg:=b0.2.2 (r.x0+(n:Int)%(r.x1-r.x0)) (r.y0+(n:Int)/(r.x1-r.x0)) (by unfold inR2;omega);rw [show r.y0+(n:Int)/(r.x1-r.x0)-r.y0=(n:Int)/(r.x1-r.x0) by omega,show r.x0+(n:Int)%(r.x1-r.x0)-r.x0=(n:Int)%(r.x1-r.x0) by omega,<-hix.2.2.2,show (n:Int).toNat=n by omega,List.getD_eq_getElem?_getD,hn] at hg;have hb:=pixAt_bd g0.2.1 (r.x0+(n:Int)%(r.x1-r.x0)) (r.y0+(n:Int)/(r.x1-r.x0));rw [<-hg] at hb;rw [e3];exact decide_eq_true hb)
 have i0:putC own 0 r (tilT s p q own r).1.pix=0:=(by unfold putC;rw [if_pos ⟨ha.ok g0.2.1, .inl rfl⟩,if_pos ⟨by rw [e1,e2];exact d0,by rw [b0.2.1,hA]⟩,if_pos f0])
 exact ⟨b0.1,i0,(by unfold putT;rw [okT_0 i0];rw [hr] at b0⊢;exact ha.put hf hi b0.2.2)⟩
theorem getD_ext {a b:List Int} (hl:a.length=b.length) (h:∀k,k<a.length->a.getD k 0=b.getD k 0):a=b:=by
  apply List.ext_getElem?
  intro k
  by_cases hk:k<a.length
  · have e:=h k hk
    rw [List.getD_eq_getElem?_getD,List.getD_eq_getElem?_getD,List.getElem?_eq_getElem hk,List.getElem?_eq_getElem (by omega)] at e
    rw [List.getElem?_eq_getElem hk,List.getElem?_eq_getElem (by omega)]
    exact congrArg some e
  · rw [List.getElem?_eq_none (by omega),List.getElem?_eq_none (by omega)]
theorem inc_get {c:List Int} {k:Int} {m:Nat} (hk:0<=k/\k<c.length):(incV c k).getD m 0=c.getD m 0+if k=(m:Int) then 1 else 0:=by
  unfold incV
  rw [List.getD_eq_getElem?_getD,List.getElem?_set]
  by_cases e:k.toNat=m
  · rw [if_pos e,if_pos (by omega),if_pos (by omega),e];rfl
  · rw [if_neg e,if_neg (by omega),Int.add_zero,List.getD_eq_getElem?_getD]
theorem fold_get {g:Int->Int} {N:Nat} (hg:∀v,0<=g v/\g v<(N:Int)) (m:Nat):∀(l c:List Int),c.length=N->(l.foldl (fun c v=>incV c (g v)) c).getD m 0=c.getD m 0+(l.map fun v=>if g v=(m:Int) then (1:Int) else 0).sum
  |[],c,_=>by simp
  |v::l,c,hc=>by
    rw [List.foldl_cons,fold_get hg m l (incV c (g v)) (by simp [incV,hc]),inc_get (by rw [hc];exact hg v),List.map_cons,List.sum_cons];omega
def cBx (p:PlaneV) (bins:Int) (m:Nat) (x y:Int):Int:=if binV (pixAt p x y) p.max_ bins=(m:Int) then 1 else 0
theorem grid_map {w:Int} {f:Int->Int->Int} {n:Nat} (g:Int->Int):(gridN w f n).map g=gridN w (fun i j=>g (f i j)) n:=by unfold gridN;rw [List.map_map];rfl
theorem grid_sum_part {w:Nat} {f:Int->Int->Int} (i:Nat):∀j:Nat,j<=w->(gridN w f (i*w+j)).sum=(gridN w f (i*w)).sum+sumN (fun a=>f (a:Int) (i:Int)) j
  |0,_=>by rw [sumN_zero,Nat.add_zero,Int.add_zero]
  |j+1,h=>by
    rw [<-Nat.add_assoc,grid_succ (by omega),List.sum_append,grid_sum_part i j (by omega),sumN_succ];simp;omega
theorem grid_sum {w:Nat} {f:Int->Int->Int}:∀h:Nat,(gridN w f (h*w)).sum=sumN (fun b=>sumN (fun a=>f (a:Int) (b:Int)) w) h
  |0=>by rw [Nat.zero_mul];rfl
  |h+1=>by rw [Nat.add_mul,Nat.one_mul,grid_sum_part h w (Nat.le_refl _),grid_sum h,sumN_succ]
theorem cnt_get {p:PlaneV} {bins:Int} {r:Rct} {w h:Int} (hb:1<=bins) (hr:rIn r w h) {m:Nat} (hm:(m:Int)<bins):(cntV p bins r (areaN r)).getD m 0=recF (cBx p bins m) r.x0 r.y0 (r.x1-r.x0).toNat (r.y1-r.y0).toNat:=by
 have a0:=hr
 unfold rIn at a0
 have hA:=arN_eq hr
 have ea:areaN r=(r.y1-r.y0).toNat*(r.x1-r.x0).toNat:=(by have e:(((r.y1-r.y0).toNat*(r.x1-r.x0).toNat:Nat):Int)=(r.x1-r.x0)*(r.y1-r.y0):=(by push_cast;rw [Int.toNat_of_nonneg om,Int.toNat_of_nonneg om,Int.mul_comm]);omega)
 have ew:r.x1-r.x0=(((r.x1-r.x0).toNat:Nat):Int):=by omega
 unfold cntV
 rw [fold_get (N:=bins.toNat) (fun v=>by have:=bin_bd (v:=v) (mx:=p.max_) hb;omega) m _ _ (List.length_replicate ..),grid_map]
 have e0:(List.replicate bins.toNat (0:Int)).getD m 0=0:=by
  rw [List.getD_eq_getElem?_getD]
  cases e:(List.replicate bins.toNat (0:Int))[m]? with
  |none=>rfl
  |some z=>exact List.eq_of_mem_replicate (List.mem_of_getElem? e)
 rw [e0,Int.zero_add,ea]
 have hs:=grid_sum (w:=(r.x1-r.x0).toNat) (f:=fun i j=>if binV (pixAt p (r.x0+i) (r.y0+j)) p.max_ bins=(m:Int) then (1:Int) else 0) (r.y1-r.y0).toNat
 rw [<-ew] at hs
 rw [hs]
 unfold recF
 exact (sumN_swap (fun a b=>cBx p bins m (r.x0+a) (r.y0+b)) (r.x1-r.x0).toNat (r.y1-r.y0).toNat).symm
def RF (f:Int->Int->Int) (a b:Int):Int:=recF f 0 0 a.toNat b.toNat
theorem RF_0 {f:Int->Int->Int} {a b:Int} (h:a<=0\/b<=0):RF f a b=0:=by
  unfold RF
  rcases h with h|h
  · rw [show a.toNat=0 by omega];exact recF_zero_i _ _ _ _
  · rw [show b.toNat=0 by omega];exact recF_zero_j _ _ _ _
theorem RF_part {f:Int->Int->Int} {x y x1 y1:Int} (hx:0<=x/\x<=x1) (hy:0<=y/\y<=y1):recF f x y (x1-x).toNat (y1-y).toNat=RF f x1 y1-RF f x y1-RF f x1 y+RF f x y:=by
  unfold RF
  have e1:=recF_cols f 0 0 x.toNat (x1-x).toNat (y.toNat+(y1-y).toNat)
  have e2:=recF_rows f (0+(x.toNat:Int)) 0 (x1-x).toNat y.toNat (y1-y).toNat
  have e3:=recF_cols f 0 0 x.toNat (x1-x).toNat y.toNat
  rw [show (0:Int)+(x.toNat:Int)=x by omega] at e1 e2 e3
  rw [show (0:Int)+(y.toNat:Int)=y by omega] at e2
  rw [show x1.toNat=x.toNat+(x1-x).toNat by omega,show y1.toNat=y.toNat+(y1-y).toNat by omega]
  omega
def tileF (f:Int->Int->Int) (w h tw th i:Int):Int:=recF f (tileV w h tw th i).x0 (tileV w h tw th i).y0 ((tileV w h tw th i).x1-(tileV w h tw th i).x0).toNat ((tileV w h tw th i).y1-(tileV w h tw th i).y0).toNat
theorem tiles_sum {f:Int->Int->Int} {w h tw th:Int} (hf:fineP w h tw th):∀i:Nat,(i:Int)<=colsN w h tw th*rowsN w h tw th->
  sumN (fun (k:Nat)=>tileF f w h tw th (k:Int)) i=RF f w (min ((i:Int)/colsN w h tw th*th) h)+RF f (min ((i:Int)%colsN w h tw th*tw) w) (min (((i:Int)/colsN w h tw th+1)*th) h)-RF f (min ((i:Int)%colsN w h tw th*tw) w) (min ((i:Int)/colsN w h tw th*th) h)
 |0,_=>by
  have hb:=cols_bd hf
  have hf0:=hf;unfold fineP at hf0
  rw [sumN_zero,show (((0:Nat):Int))=0 from rfl,Int.zero_ediv,Int.zero_emod,Int.zero_mul,Int.zero_mul,RF_0 (.inr om),RF_0 (.inl om),RF_0 (.inl om)];rfl
 |i+1,hi=>by
  have hb:=cols_bd hf
  have hf0:=hf;unfold fineP at hf0
  have ih:=tiles_sum (f:=f) hf i om
  have hix:=tile_ix (nx:=colsN w h tw th) (ny:=rowsN w h tw th) (i:=(i:Int)) hb.1.1 om om
  have hin:=(tile_in hf (i:=(i:Int)) om om).1
  obtain ⟨nx,hnx⟩:∃z,z=colsN w h tw th:=⟨_,rfl⟩
  have hT:tileF f w h tw th (i:Int)=RF f (min ((i:Int)%nx*tw+tw) w) (min ((i:Int)/nx*th+th) h)-RF f ((i:Int)%nx*tw) (min ((i:Int)/nx*th+th) h)-RF f (min ((i:Int)%nx*tw+tw) w) ((i:Int)/nx*th)+RF f ((i:Int)%nx*tw) ((i:Int)/nx*th):=(by unfold inP tileV at hin;dsimp only at hin;rw [<-hnx] at hin;unfold tileF tileV;dsimp only;rw [<-hnx];exact RF_part om om)
  unfold inP tileV at hin
  dsimp only at hin
  rw [sumN_succ,ih,hT]
  rw [<-hnx] at hix hin hb⊢
  obtain ⟨cx,hcx⟩:∃z,z=(i:Int)%nx:=⟨_,rfl⟩
  obtain ⟨cy,hcy⟩:∃z,z=(i:Int)/nx:=⟨_,rfl⟩
  rw [<-hcx,<-hcy] at hix hin⊢
  have m1:min (cx*tw) w=cx*tw:=by omega
  have m2:min (cy*th) h=cy*th:=by omega
  have e5:(cy+1)*th=cy*th+th:=by rw [Int.add_mul,Int.one_mul]
  rw [m1,m2,e5]
  by_cases hl:cx+1<nx
  · exact (by have hg:=grid_ix (nx:=nx) (i:=cy) (j:=cx+1) om;have e:(((i+1:Nat):Int))=cy*nx+(cx+1):=(by push_cast;omega);rw [e,hg.1,hg.2,e5,m2,show (cx+1)*tw=cx*tw+tw by rw [Int.add_mul,Int.one_mul]];omega)
  · exact (by have hg:=grid_ix (nx:=nx) (i:=cy+1) (j:=0) om;have e:(((i+1:Nat):Int))=(cy+1)*nx+0:=(by push_cast;rw [Int.add_mul,Int.one_mul];omega);have hge:=ceil_ge (a:=w) (b:=tw) om om;have hc:nx=ceilV w tw:=(by rw [hnx];unfold colsN;rw [if_pos hf]);rw [<-hc,show nx=cx+1 by omega,Int.add_mul,Int.one_mul] at hge;rw [e,hg.1,hg.2,e5,Int.zero_mul,RF_0 (a:=min 0 w) (.inl om),RF_0 (a:=min 0 w) (.inl om),show min (cx*tw+tw) w=w by omega];omega)
theorem tiles_all {f:Int->Int->Int} {w h tw th:Int} (hf:fineP w h tw th) {n:Nat} (hn:(n:Int)=colsN w h tw th*rowsN w h tw th):sumN (fun (k:Nat)=>tileF f w h tw th (k:Int)) n=RF f w h:=by
 have hb:=cols_bd hf
 have a0:=hf;unfold fineP at a0
 have hs:=tiles_sum (f:=f) hf n om
 have hg:=grid_ix (nx:=colsN w h tw th) (i:=rowsN w h tw th) (j:=0) om
 have b0:=ceil_ge (a:=h) (b:=th) om om
 have hc:rowsN w h tw th=ceilV h th:=by unfold rowsN;rw [if_pos hf]
 rw [<-hc] at b0
 rw [hs,hn,show colsN w h tw th*rowsN w h tw th=rowsN w h tw th*colsN w h tw th+0 by rw [Int.mul_comm,Int.add_zero],hg.1,hg.2,Int.zero_mul,RF_0 (a:=min 0 w) (.inl om),RF_0 (a:=min 0 w) (.inl om),show min (rowsN w h tw th*th) h=h by omega]
 omega
theorem addL_len {a b:List Int} (h:a.length=b.length):(addL a b).length=a.length:=by unfold addL;rw [List.length_zipWith];omega
theorem addL_get {a b:List Int} (h:a.length=b.length) (k:Nat):(addL a b).getD k 0=a.getD k 0+b.getD k 0:=by
  unfold addL
  rw [List.getD_eq_getElem?_getD,List.getD_eq_getElem?_getD,List.getD_eq_getElem?_getD,List.getElem?_zipWith]
  by_cases hk:k<a.length
  · rw [List.getElem?_eq_getElem hk,List.getElem?_eq_getElem (by omega)];rfl
  · rw [List.getElem?_eq_none (by omega),List.getElem?_eq_none (by omega)];rfl
theorem mrg_fold {g:Nat->List Int} {N:Nat} (hg:∀k,(g k).length=N):∀n:Nat,(((List.range n).map g).foldl addL (List.replicate N 0)).length=N/\∀m,(((List.range n).map g).foldl addL (List.replicate N 0)).getD m 0=sumN (fun k=>(g k).getD m 0) n
 |0=>by
  refine ⟨by simp,fun m=>?_⟩
  rw [sumN_zero]
  simp only [List.range_zero,List.map_nil,List.foldl_nil]
  rw [List.getD_eq_getElem?_getD]
  cases e:(List.replicate N (0:Int))[m]? with
  |none=>rfl
  |some z=>exact List.eq_of_mem_replicate (List.mem_of_getElem? e)
 |n+1=>by
  have ih:=mrg_fold hg n
  rw [List.range_succ,List.map_append,List.foldl_append]
  simp only [List.map_cons,List.map_nil,List.foldl_cons,List.foldl_nil]
  have hl:(((List.range n).map g).foldl addL (List.replicate N 0)).length=(g n).length:=by rw [ih.1,hg]
  exact ⟨by rw [addL_len hl,ih.1],fun m=>(by rw [addL_get hl,ih.2,sumN_succ])⟩
theorem hist_merge {p:PlaneV} {bins tw th:Int} (hp:planeOK p=true) (hb:1<=bins/\bins<=128) (hf:fineP p.w p.h tw th) {n:Nat} (hn:(n:Int)=colsN p.w p.h tw th*rowsN p.w p.h tw th) (h4:n<=4096)
  {parts:List (List Int)} (he:parts=(List.range n).map fun (k:Nat)=>partV p bins (tileV p.w p.h tw th (k:Int))):
  mrgC parts=0/\mrgN parts=bins/\mrgV parts=(histT p bins).1.pix:=by
 have d0:=cols_bd hf
 have i0:1<=n:=(by have:=Int.mul_le_mul d0.1.1 d0.2.1 om om;omega)
 have c0:∀k:Nat,k<n->rIn (tileV p.w p.h tw th (k:Int)) p.w p.h:=fun k hk=>by
  have h:=tile_in hf (i:=(k:Int)) om om
  have h1:=h.1;unfold inP at h1
  unfold rIn;omega
 have h0:∀k:Nat,k<n->partV p bins (tileV p.w p.h tw th (k:Int))=cntV p bins (tileV p.w p.h tw th (k:Int)) (areaN (tileV p.w p.h tw th (k:Int))):=fun k hk=>by
  have e:partC p bins (tileV p.w p.h tw th (k:Int))=0:=by unfold partC;rw [if_pos hp,if_pos hb,if_pos (c0 k hk)]
  unfold partV;rw [if_pos e]
 have a0:parts=(List.range n).map fun (k:Nat)=>cntV p bins (tileV p.w p.h tw th (k:Int)) (areaN (tileV p.w p.h tw th (k:Int))):=(by rw [he];exact List.map_congr_left (fun k hk=>h0 k (List.mem_range.1 hk)))
 have hN:mrgN parts=bins:=(by unfold mrgN;rw [a0,List.getElem?_map,List.getElem?_range om];simp only [Option.map_some,Option.getD_some];rw [cnt_len];omega)
 have b0:=mrg_fold (g:=fun (k:Nat)=>cntV p bins (tileV p.w p.h tw th (k:Int)) (areaN (tileV p.w p.h tw th (k:Int)))) (N:=bins.toNat) (fun k=>cnt_len _ _ _ _) n
 obtain ⟨hw,ha⟩:=all_in hp
 have e0:partC p bins ⟨0,0,p.w,p.h⟩=0:=by unfold partC;rw [if_pos hp,if_pos hb,if_pos hw]
 have eh:(histT p bins).1.pix=cntV p bins ⟨0,0,p.w,p.h⟩ (areaN ⟨0,0,p.w,p.h⟩):=by unfold histT;rw [okT_0 e0]
 have hV:mrgV parts=(histT p bins).1.pix:=by
  rw [eh]
  unfold mrgV
  rw [hN,a0]
  refine getD_ext (by rw [b0.1,cnt_len]) (fun m hm=>?_)
  rw [b0.1] at hm
  rw [b0.2,cnt_get hb.1 hw om]
  have e1:sumN (fun (k:Nat)=>(cntV p bins (tileV p.w p.h tw th (k:Int)) (areaN (tileV p.w p.h tw th (k:Int)))).getD m 0) n=sumN (fun (k:Nat)=>tileF (cBx p bins m) p.w p.h tw th (k:Int)) n:=
   sumN_congr n (fun k hk=>cnt_get hb.1 (c0 k hk) om)
  rw [e1,tiles_all hf hn]
  unfold RF
  dsimp only
  rw [Int.sub_zero,Int.sub_zero]
 have hs:=(plane_sz hp).1;unfold sizeP at hs
 refine ⟨?_,hN,hV⟩
 unfold mrgC
 have f0:parts.length=n:=by rw [a0];simp
 have g0:parts.all (fun z=>decide (z.length=bins))=true:=(by rw [List.all_eq_true,a0];intro l hl;obtain ⟨k,hk,rfl⟩:=List.mem_map.1 hl;exact decide_eq_true (by rw [cnt_len];omega))
 rw [hN,if_neg om,if_pos ⟨hb,g0⟩,if_pos ?_,if_pos ?_]
 · exact (by rw [hV,List.all_eq_true,eh];intro z hz;have:=cnt_bd _ z hz;exact decide_eq_true om)
 · exact (by rw [List.all_eq_true,a0];intro l hl;obtain ⟨k,hk,rfl⟩:=List.mem_map.1 hl;unfold inM;rw [List.all_eq_true];intro z hz;have h1:=cnt_bd _ z hz;have hr:=c0 k (List.mem_range.1 hk);have h2:=arN_eq hr;have h3:=rIn_area hr (show p.w*p.h<=4096 by omega);exact decide_eq_true om)
theorem need_hit {s:StageV} {n a b size k l m:Int} {t:List TapV} (hl:lenP n a b) (ha:accV s) (hk:a<=k/\k<b) (h0:0<=l/\l<winC s.kind k size t) (h:idxV (winF s.kind k size t+l) n (polV s)=some m):m∈needV s n a b size t:=by
  have hm:=idx_bd h
  unfold needV
  rw [if_pos ⟨hl,ha⟩,List.mem_filter]
  exact ⟨mem_upto.2 ⟨hm.1,by omega⟩,(by unfold needB;rw [List.any_eq_true];exact ⟨(k-a).toNat,List.mem_range.2 (by omega),(by rw [show a+(((k-a).toNat:Nat):Int)=k by omega];unfold hitB;rw [List.any_eq_true];exact ⟨l.toNat,List.mem_range.2 (by omega),decide_eq_true (by rw [show (l.toNat:Int)=l by omega];exact h)⟩)⟩)⟩
theorem pixV_agr {p p':PlaneV} {pol fill x y:Int} (hw:p'.w=p.w) (hh:p'.h=p.h) (h:∀c d,idxV x p.w pol=some c->idxV y p.h pol=some d->pixAt p c d=pixAt p' c d):pixV p pol fill x y=pixV p' pol fill x y:=by
  unfold pixV
  rw [hw,hh]
  cases h1:idxV x p.w pol with
  |none=>rfl
  |some c=>
    cases h2:idxV y p.h pol with
    |none=>rfl
    |some d=>
      have e:=h c d h1 h2
      unfold pixAt at e
      rw [hw] at e
      exact e
theorem mk_congr {r:Rct} {w h mx:Int} {f g:Int->Int->Int} (hr:rIn r w h) (e:∀x y,inR2 r x y->f x y=g x y):mkPl r mx f=mkPl r mx g:=by
  have hA:=arN_eq hr
  unfold rIn at hr
  unfold mkPl
  rw [grid_congr (w:=r.x1-r.x0) (n:=areaN r) (f:=fun i j=>f (r.x0+i) (r.y0+j)) (g:=fun i j=>g (r.x0+i) (r.y0+j)) (fun k hk=>by
    have h:=tile_ix (nx:=r.x1-r.x0) (ny:=r.y1-r.y0) (i:=(k:Int)) (by omega) (by omega) (by omega)
    exact e _ _ (by unfold inR2;omega))]
def AgrP (s:StageV) (p p':PlaneV) (r:Rct):Prop:=∀c∈colsV s p.w r.x0 r.x1,∀d∈rowsV s p.h r.y0 r.y1,pixAt p c d=pixAt p' c d
theorem cols_hit {s:StageV} {w a b k l m:Int} (hl:lenP w a b) (ha:accV s) (hk:a<=k/\k<b) (h0:0<=l/\l<winC s.kind k (if s.kind=2 then (s.row.length:Int) else s.kW) s.x) (h:idxV (winF s.kind k (if s.kind=2 then (s.row.length:Int) else s.kW) s.x+l) w (polV s)=some m):m∈colsV s w a b:=need_hit hl ha hk h0 h
theorem rows_hit {s:StageV} {n a b k l m:Int} (hl:lenP n a b) (ha:accV s) (hk:a<=k/\k<b) (h0:0<=l/\l<winC s.kind k (if s.kind=2 then (s.col.length:Int) else s.kH) s.y) (h:idxV (winF s.kind k (if s.kind=2 then (s.col.length:Int) else s.kH) s.y+l) n (polV s)=some m):m∈rowsV s n a b:=need_hit hl ha hk h0 h
section
variable {s:StageV} {p p':PlaneV} {r:Rct} (hw:p'.w=p.w) (hh:p'.h=p.h) (ha:accV s) (hx:lenP p.w r.x0 r.x1) (hy:lenP p.h r.y0 r.y1) (hg:AgrP s p p' r)
include hw hh ha hx hy hg
theorem conv_agr (hk:s.kind=1) (hl:(s.weights.length:Int)=s.kW*s.kH) (hkw:1<=s.kW) {x y:Int} (hi:inR2 r x y):convX p s.edgePolicy s.edgeFill s.kW s.kH s.weights s.shift s.max_ x y=convX p' s.edgePolicy s.edgeFill s.kW s.kH s.weights s.shift s.max_ x y:=by
 unfold inR2 at hi
 have a0:polV s=s.edgePolicy:=by unfold polV;rw [if_neg om]
 have e:convS p s.edgePolicy s.edgeFill s.kW s.kH s.weights x y s.weights.length=convS p' s.edgePolicy s.edgeFill s.kW s.kH s.weights x y s.weights.length:=by
  unfold convS
  refine sumN_congr _ (fun k b0=>?_)
  have hix:=tile_ix (nx:=s.kW) (ny:=s.kH) (i:=(k:Int)) hkw om om
  unfold convF
  rw [pixV_agr hw hh (fun c d h1 h2=>hg c (cols_hit hx ha hi.1 (l:=(k:Int)%s.kW) (by unfold winC;rw [if_pos (.inl hk),if_neg om];omega) (by
    rw [a0,if_neg om];unfold winF;rw [if_pos (.inl hk)];rw [show x-s.kW/2+(k:Int)%s.kW=x+(k:Int)%s.kW-s.kW/2 by omega];exact h1)) d (rows_hit hy ha hi.2 (l:=(k:Int)/s.kW) (by unfold winC;rw [if_pos (.inl hk),if_neg om];omega) (by
    rw [a0,if_neg om];unfold winF;rw [if_pos (.inl hk)];rw [show y-s.kH/2+(k:Int)/s.kW=y+(k:Int)/s.kW-s.kH/2 by omega];exact h2)))]
 unfold convX;rw [e]
theorem sep_agr (hk:s.kind=2) {x y:Int} (hi:inR2 r x y):sepX p s.edgePolicy s.edgeFill s.row s.col s.shift s.shift2 s.max_ x y=sepX p' s.edgePolicy s.edgeFill s.row s.col s.shift s.shift2 s.max_ x y:=by
 unfold inR2 at hi
 have a0:polV s=s.edgePolicy:=by unfold polV;rw [if_neg om]
 have e:sepS p s.edgePolicy s.edgeFill s.row s.col s.shift x y s.col.length=sepS p' s.edgePolicy s.edgeFill s.row s.col s.shift x y s.col.length:=by
  unfold sepS
  refine sumN_congr _ (fun j hj=>?_)
  have e2:midS p s.edgePolicy s.edgeFill s.row x (y+(j:Int)-(s.col.length:Int)/2) s.row.length=midS p' s.edgePolicy s.edgeFill s.row x (y+(j:Int)-(s.col.length:Int)/2) s.row.length:=by
   unfold midS
   refine sumN_congr _ (fun k b0=>?_)
   unfold midF
   rw [pixV_agr hw hh (fun c d h1 h2=>hg c (cols_hit hx ha hi.1 (l:=(k:Int)) (by unfold winC;rw [if_pos (.inr hk),if_pos hk];omega) (by
     rw [a0,if_pos hk];unfold winF;rw [if_pos (.inr hk)];rw [show x-(s.row.length:Int)/2+(k:Int)=x+(k:Int)-(s.row.length:Int)/2 by omega];exact h1)) d (rows_hit hy ha hi.2 (l:=(j:Int)) (by unfold winC;rw [if_pos (.inr hk),if_pos hk];omega) (by
     rw [a0,if_pos hk];unfold winF;rw [if_pos (.inr hk)];rw [show y-(s.col.length:Int)/2+(j:Int)=y+(j:Int)-(s.col.length:Int)/2 by omega];exact h2)))]
  unfold midV;rw [e2]
 unfold sepX;rw [e]
theorem res_agr (hk:s.kind=3) {x y:Int} (hi:inR2 r x y) (h0:0<=r.x0/\0<=r.y0) (hb:r.x1<=s.x.length/\r.y1<=s.y.length):resX p s.edgePolicy s.edgeFill s.x s.y s.shift s.shift2 s.max_ x y=resX p' s.edgePolicy s.edgeFill s.x s.y s.shift s.shift2 s.max_ x y:=by
 unfold inR2 at hi
 have b0:polV s=s.edgePolicy:=by unfold polV;rw [if_neg om]
 have hn:¬(s.kind=1\/s.kind=2):=by omega
 have c0:∀(l:List TapV) (k a0:Int),0<=k->k<l.length->winF s.kind k a0 l=(tapAt l k).first/\winC s.kind k a0 l=((tapAt l k).weights.length:Int):=fun l k a0 h1 h2=>by
  have e:l[k.toNat]?=some (l[k.toNat]'om):=List.getElem?_eq_getElem om
  unfold winF winC tapAt
  rw [if_neg hn,if_neg hn,if_pos hk,if_pos hk,e]
  exact ⟨rfl,rfl⟩
 have e:resS p s.edgePolicy s.edgeFill (tapAt s.x x) (tapAt s.y y) s.shift (tapAt s.y y).weights.length=resS p' s.edgePolicy s.edgeFill (tapAt s.x x) (tapAt s.y y) s.shift (tapAt s.y y).weights.length:=(by unfold resS;refine sumN_congr _ (fun j hj=>?_);have e2:tapS p s.edgePolicy s.edgeFill (tapAt s.x x) ((tapAt s.y y).first+(j:Int)) (tapAt s.x x).weights.length=tapS p' s.edgePolicy s.edgeFill (tapAt s.x x) ((tapAt s.y y).first+(j:Int)) (tapAt s.x x).weights.length:=(by unfold tapS;refine sumN_congr _ (fun k f0=>?_);have d0:=c0 s.x x (if s.kind=2 then (s.row.length:Int) else s.kW) om om;have e0:=c0 s.y y (if s.kind=2 then (s.col.length:Int) else s.kH) om om;rw [pixV_agr hw hh (fun c d h1 h2=>hg c (cols_hit hx ha hi.1 (l:=(k:Int)) (by rw [d0.2];omega) (by rw [b0,d0.1];exact h1)) d (rows_hit hy ha hi.2 (l:=(j:Int)) (by rw [e0.2];omega) (by rw [b0,e0.1];exact h2)))]);unfold tapV;rw [e2])
 unfold resX;rw [e]
theorem own_agr (hk:3<s.kind) (hr:rIn r p.w p.h) {x y:Int} (hi:inR2 r x y):pixAt p x y=pixAt p' x y:=by
 unfold inR2 at hi
 unfold rIn at hr
 have d0:polV s=3:=by unfold polV;rw [if_pos hk]
 have hn:¬(s.kind=1\/s.kind=2):=by omega
 have a0:∀(l:List TapV) (k b0:Int),winF s.kind k b0 l=k/\winC s.kind k b0 l=1:=fun l k b0=>by
  unfold winF winC
  rw [if_neg hn,if_neg hn,if_neg om,if_neg om]
  exact ⟨rfl,rfl⟩
 have c0:∀k n:Int,1<=n/\n<=128->0<=k/\k<n->idxV (k+0) n 3=some k:=fun k n h1 h2=>by rw [Int.add_zero];exact idx_in h1 om h2
 unfold lenP at hx hy
 exact hg x (cols_hit (by unfold lenP;exact hx) ha hi.1 (l:=0) (by rw [(a0 _ _ _).2];omega) (by rw [d0,(a0 _ _ _).1];exact c0 _ _ hx.1 om)) y (rows_hit (by unfold lenP;exact hy) ha hi.2 (l:=0) (by rw [(a0 _ _ _).2];omega) (by rw [d0,(a0 _ _ _).1];exact c0 _ _ hy.1 om))
end
end Go.Proofs.YtghcddbhllkbmaaGreat
