import Derived.WalkKit
import Derived.Deep.Quiet
import Derived.KernelRfl
import Derived.Laws.BytesString
import Derived.Laws.Shifts
import Derived.Laws.IdiomStrings
import Derived.OpenShut
import Derived.Test.YtghcddbhllkbmaaGreatProg
import Derived.Laws.IdiomRangeMap
import Derived.Test.YtghcddbhllkbmaaGreatR2P2Rv
import Derived.Test.YtghcddbhllkbmaaGreatR2P2Lu
namespace Go.Proofs.YtghcddbhllkbmaaGreat
open Go Go.E Go.Proofs.Tryz
set_option linter.all false
set_option maxRecDepth 100000
set_option maxHeartbeats 2000000
variable {W w:World} {H:Chunk} {F:List Chunk}
section
variable {j:JobV} {p q:PlaneV} {s:StageV} (hj:j.inputs=[p,q]) (hs:j.stages=[s]) (hz:(shpV j).2.2=0)
include hj hs hz
theorem one_od:(ordV j).1=[2]:=by
  have ho:=shp_ok hz
  have hl:=ho.ln
  rw [hs] at hl
  obtain ⟨x,hx⟩:=List.length_eq_one_iff.1 hl
  have hr:=ho.rng x (by rw [hx];simp)
  rw [hj,hs] at hr
  simp only [List.length_cons,List.length_nil] at hr
  rw [hx,show x=2 by omega]
theorem one_mean0:meanV j=[p,q,(stgT s (plAt [p,q,zPl] s.a) (srcB s [p,q,zPl])).1]:=by
  unfold meanV
  rw [if_pos hz,one_od hj hs hz]
  unfold meanG meanI
  rw [hj,hs]
  rfl
variable (ha:s.a=0) (hb:twoP s->s.b=1)
include ha hb
theorem one_mean:meanV j=[p,q,(stgT s p q).1]:=by
  rw [one_mean0 hj hs hz,ha]
  have e:srcB s [p,q,zPl]=if twoP s then q else zPl:=by
    unfold srcB
    by_cases h:twoP s
    · rw [if_pos h,if_pos h,hb h];rfl
    · rw [if_neg h,if_neg h]
  rw [e,stgT_if];rfl
theorem one_ok:planeOK p=true/\planeOK q=true/\(ofV s (shpOf p) (shpOf q)).2=0/\shpAt (shpV j).1 2=shpOf (stgT s p q).1/\shpAt (shpV j).1 0=shpOf p/\planeOK (stgT s p q).1=true:=by
 have hm:=(mean_ok hz).2
 rw [hj,hs,one_mean hj hs hz ha hb] at hm
 have h0:=hm 0 (by decide) (by simp)
 have h1:=hm 1 (by decide) (by simp)
 have h2:=hm 2 (by decide) (by simp)
 have ho:=(shp_ok hz).fit 2 (by rw [one_od hj hs hz];simp)
 unfold FitP shpStep at ho
 rw [hs,hj] at ho
 have es:stgAt [s] (([p,q]:List PlaneV).length:Nat) 2=s:=rfl
 rw [es,ha] at ho
 have e0:shpAt (shpV j).1 0=shpOf p:=h0.2.symm
 have e1:shpAt (shpV j).1 1=shpOf q:=h1.2.symm
 refine ⟨h0.1,h1.1,?_,h2.2.symm,e0,h2.1⟩
 by_cases h:twoP s
 ·rw [if_pos h,hb h,e0,e1] at ho;exact congrArg Prod.snd ho
 ·rw [if_neg h,e0] at ho;rw [of_any (t:=shpOf q) (u:=⟨0,0,0⟩) h];exact congrArg Prod.snd ho
variable {tw th:Int}
theorem one_tasks (htp:tileP tw th):(layV j tw th).all=(layV j tw th).tasks 2/\(layV j tw th).st 2=s/\(layV j tw th).cut 2=if s.kind=4 then shpOf p else shpOf (stgT s p q).1:=by
  have hk:=one_ok hj hs hz ha hb
  have a0:(layV j tw th).st 2=s:=by show stgAt j.stages j.inputs.length 2=s;rw [hs,hj];rfl
  refine ⟨?_,a0,?_⟩
  · exact (by unfold Lay.all;rw [show (layV j tw th).od=[2] from one_od hj hs hz];simp)
  · exact (by unfold Lay.cut;rw [a0,ha,show (layV j tw th).sh=(shpV j).1 from rfl,hk.2.2.2.1,hk.2.2.2.2.1])
end
theorem of_k {s:StageV} {x y:Shape} (h:(ofV s x y).2=0):(ofV s x y).1=(kernelV s x y).1/\(kernelV s x y).2=0:=by
  unfold ofV at h⊢
  by_cases h1:fieldsP s
  · rw [if_pos h1] at h⊢
    by_cases h2:szP x/\(¬twoP s\/szP y)
    · rw [if_pos h2] at h⊢
      by_cases h3:¬(s.kind=1\/s.kind=2\/s.kind=3)\/edgeP s x.max_
      · rw [if_pos h3] at h⊢
        by_cases h4:(kernelV s x y).2=0
        · rw [if_pos h4];exact ⟨rfl,h4⟩
        · rw [if_neg h4] at h;exact absurd h h4
      · rw [if_neg h3] at h;exact absurd h (by decide)
    · rw [if_neg h2] at h;exact absurd h (by decide)
  · rw [if_neg h1] at h;exact absurd h (by decide)
section
variable (s:StageV) (p q:PlaneV) (tw th:Int)
def tkP (i:Int):Int×Rct:=
  if s.kind=4 then (if i<colsN p.w p.h tw th*rowsN p.w p.h tw th then (1,tileV p.w p.h tw th i) else (2,⟨0,0,s.bins,1⟩))
  else (0,tileV (stgT s p q).1.w (stgT s p q).1.h tw th i)
def tkN:Int:=if s.kind=4 then colsN p.w p.h tw th*rowsN p.w p.h tw th+1 else colsN (stgT s p q).1.w (stgT s p q).1.h tw th*rowsN (stgT s p q).1.w (stgT s p q).1.h tw th
def zeroP (W:PlaneV):PlaneV:=⟨W.w,W.h,W.max_,List.replicate (W.w*W.h).toNat 0⟩
def AI (i:Int) (own:PlaneV) (l:List (List Int)):Prop:=
  if s.kind=4 then
    (i<=colsN p.w p.h tw th*rowsN p.w p.h tw th->own=zeroP (stgT s p q).1/\l=(List.range i.toNat).map fun (k:Nat)=>partV p s.bins (tileV p.w p.h tw th (k:Int)))/\
      (colsN p.w p.h tw th*rowsN p.w p.h tw th<i->own=(stgT s p q).1)
  else AsmP (stgT s p q).1 own (colsN (stgT s p q).1.w (stgT s p q).1.h tw th) tw th i/\l=[]
end
section
variable {s:StageV} {p q own:PlaneV} {tw th i:Int} {l:List (List Int)} (hp:planeOK p=true) (hq:twoP s->planeOK q=true) (h:(ofV s (shpOf p) (shpOf q)).2=0)
include hp hq h
theorem ai_tile (hk:¬s.kind=4) (hf:fineP (stgT s p q).1.w (stgT s p q).1.h tw th) (hi:0<=i/\i<tkN s p q tw th) (hA:AI s p q tw th i own l):
  (cmpT s 0 (tkP s p q tw th i).2 p q own l).2=0/\(putT own 0 (tkP s p q tw th i).2 (cmpT s 0 (tkP s p q tw th i).2 p q own l).1).2=0/\AI s p q tw th (i+1) (putT own 0 (tkP s p q tw th i).2 (cmpT s 0 (tkP s p q tw th i).2 p q own l).1).1 l:=by
 unfold AI at hA⊢
 rw [if_neg hk] at hA
 unfold tkN at hi
 rw [if_neg hk] at hi
 have b0:=asm_step hp hq h hk hf hA.1 hi
 have hr:(tkP s p q tw th i).2=tileV (stgT s p q).1.w (stgT s p q).1.h tw th i:=by unfold tkP;rw [if_neg hk]
 rw [hr]
 have a0:=stg_ok hp hq h
 have hC:cmpC s 0 p q own=0:=(by unfold cmpC;rw [if_pos,h];refine ⟨.inr ⟨hk,rfl⟩,hp,hq,fun h5=>⟨hA.1.ok a0.2.1,?_⟩⟩;have e1:=congrArg Shape.w hA.1.shp;have e2:=congrArg Shape.h hA.1.shp;have e3:=congrArg Shape.w a0.2.2;have e4:=congrArg Shape.h a0.2.2;have hv:=of_k h;have c0:(kernelV s (shpOf p) (shpOf q)).1.w=p.w/\(kernelV s (shpOf p) (shpOf q)).1.h=p.h:=(by unfold kernelV;rw [if_neg om,if_neg om,if_neg om,if_neg hk,if_pos h5];split<;>exact ⟨rfl,rfl⟩);rw [<-hv.1] at c0;have e5:=c0.1;have e6:=c0.2;rw [<-e3] at e5;rw [<-e4] at e6;have f1:own.w=(stgT s p q).1.w:=e1;have f2:own.h=(stgT s p q).1.h:=e2;have f3:(stgT s p q).1.w=p.w:=e5;have f4:(stgT s p q).1.h=p.h:=e6;omega)
 have hc:cmpT s 0 (tileV (stgT s p q).1.w (stgT s p q).1.h tw th i) p q own l=((tilT s p q own (tileV (stgT s p q).1.w (stgT s p q).1.h tw th i)).1.pix,0):=(by rw [cmp_0 hC (by decide) (by decide),if_pos b0.1])
 rw [hc]
 refine ⟨rfl,?_,?_⟩
 ·unfold putT;rw [okT_0 b0.2.1]
 ·rw [if_neg hk];exact ⟨b0.2.2,hA.2⟩
end
section
variable {s:StageV} {p q own:PlaneV} {tw th i:Int} {l:List (List Int)} (hp:planeOK p=true) (hq:twoP s->planeOK q=true) (h:(ofV s (shpOf p) (shpOf q)).2=0) (hk:s.kind=4)
include hp hq h hk
theorem hist_bins:(1<=s.bins/\s.bins<=128)/\(stgT s p q).1=(histT p s.bins).1:=by
  have hv:=(of_k h).2
  refine ⟨?_,by unfold stgT;rw [if_pos ⟨hp,hq⟩,if_pos h,if_pos hk]⟩
  unfold kernelV at hv
  rw [if_neg (by omega),if_neg (by omega),if_neg (by omega),if_pos hk] at hv
  by_cases hb:1<=s.bins/\s.bins<=128
  · exact hb
  · rw [if_neg hb] at hv;simp at hv
theorem hist_cmp {part:Int} (hpt:part=1\/part=2):cmpC s part p q own=0:=by
  unfold cmpC
  rw [if_pos,h]
  exact ⟨.inl ⟨hk,hpt⟩,hp,hq,fun h5=>by omega⟩
theorem ai_part (hf:fineP p.w p.h tw th) (hi:0<=i/\i<colsN p.w p.h tw th*rowsN p.w p.h tw th) (hA:AI s p q tw th i own l):
  (cmpT s 1 (tkP s p q tw th i).2 p q own l).2=0/\AI s p q tw th (i+1) own (l++[(cmpT s 1 (tkP s p q tw th i).2 p q own l).1]):=by
 have hb:=hist_bins hp hq h hk
 have hr:(tkP s p q tw th i).2=tileV p.w p.h tw th i:=by unfold tkP;rw [if_pos hk,if_pos hi.2]
 have b0:=(tile_in hf hi.1 hi.2)
 have a0:=b0.1
 unfold inP at a0
 rw [hr,cmp_1 (hist_cmp hp hq h hk (.inl rfl)) rfl]
 have c0:partC p s.bins (tileV p.w p.h tw th i)=0:=by unfold partC;rw [if_pos hp,if_pos hb.1,if_pos (show rIn _ _ _ by unfold rIn;omega)]
 exact ⟨c0,(by unfold AI at hA⊢;rw [if_pos hk] at hA⊢;have h1:=hA.1 om;exact ⟨fun _=>⟨h1.1,(by rw [h1.2,show (i+1).toNat=i.toNat+1 by omega,List.range_succ,List.map_append];simp only [List.map_cons,List.map_nil];rw [show (i.toNat:Int)=i by omega])⟩,fun h2=>by omega⟩)⟩
theorem ai_merge (hf:fineP p.w p.h tw th) (hi:i=colsN p.w p.h tw th*rowsN p.w p.h tw th) (h4:colsN p.w p.h tw th*rowsN p.w p.h tw th<=4096) (hA:AI s p q tw th i own l):
  (cmpT s 2 (tkP s p q tw th i).2 p q own l).2=0/\(putT own 2 (tkP s p q tw th i).2 (cmpT s 2 (tkP s p q tw th i).2 p q own l).1).2=0/\AI s p q tw th (i+1) (putT own 2 (tkP s p q tw th i).2 (cmpT s 2 (tkP s p q tw th i).2 p q own l).1).1 l:=by
 have hb:=hist_bins hp hq h hk
 have hr:(tkP s p q tw th i).2=⟨0,0,s.bins,1⟩:=by unfold tkP;rw [if_pos hk,if_neg om]
 have g0:=cols_bd hf
 have h0:0<=colsN p.w p.h tw th*rowsN p.w p.h tw th:=Int.mul_nonneg om om
 unfold AI at hA⊢
 rw [if_pos hk] at hA⊢
 obtain ⟨ho,hl⟩:=hA.1 om
 have hm:=hist_merge hp hb.1 hf (n:=i.toNat) om om hl
 rw [hr,cmp_2 (hist_cmp hp hq h hk (.inr rfl)) rfl,mrgB_eq,if_pos hm.1,if_pos hm.2.1,hm.2.2]
 have hw:=hist_whole hp hb.1
 have hW:=hb.2
 rw [hW] at ho
 have hs:=(plane_sz hw.2.1)
 have sw:(histT p s.bins).1.w=s.bins:=congrArg Shape.w hw.2.2
 have sh:(histT p s.bins).1.h=1:=congrArg Shape.h hw.2.2
 have hz:=hs.1;unfold sizeP at hz
 have b0:own.w=s.bins:=by rw [ho];exact sw
 have a0:own.h=1:=by rw [ho];exact sh
 have d0:own.max_=(histT p s.bins).1.max_:=by rw [ho];rfl
 have c0:(own.pix.length:Int)=own.w*own.h:=by rw [b0,a0,ho];unfold zeroP;dsimp only;rw [List.length_replicate,sw,sh];omega
 have f0:planeOK own=true:=(by refine plane_mk (by rw [b0,a0,d0];unfold sizeP;omega) c0 (fun z hz=>?_);rw [ho] at hz;have:=List.eq_of_mem_replicate hz;omega)
 have e0:((histT p s.bins).1.pix.length:Int)=s.bins:=by have:=hs.2.1;rw [sw,sh] at this;omega
 have hC:putC own 2 ⟨0,0,s.bins,1⟩ (histT p s.bins).1.pix=0:=(by unfold putC;rw [if_pos ⟨f0, .inr rfl⟩,if_pos ⟨by rw [b0,a0];unfold rIn;dsimp only;omega,by dsimp only;omega⟩,if_pos];unfold inM;rw [List.all_eq_true];intro z hz2;rw [d0];exact decide_eq_true (hs.2.2 z hz2))
 exact ⟨rfl,by unfold putT;rw [okT_0 hC],fun h2=>by omega,fun _=>(by unfold putT;rw [okT_0 hC,hW];exact plane_ext (by unfold shpOf;rw [b0,a0,d0,sw,sh]) (by dsimp only;rw [put_len];exact c0) hs.2.1 (by dsimp only;omega) (fun x y hx hy=>(by dsimp only at hx hy;rw [put_at c0 hx hy,if_pos (by unfold inR2;dsimp only;omega)];unfold pixAt;rw [sw];congr 1;dsimp only;rw [show y-0=y by omega,show x-0=x by omega,show s.bins-0=s.bins by omega])))⟩
end
section
variable {s:StageV} {p q own:PlaneV} {tw th:Int} {l:List (List Int)} (hp:planeOK p=true) (hq:twoP s->planeOK q=true) (h:(ofV s (shpOf p) (shpOf q)).2=0)
include hp hq h
theorem ai_start (htp:tileP tw th):AI s p q tw th 0 (zeroP (stgT s p q).1) []:=by
 have d0:=stg_ok hp hq h
 have hs:=(plane_sz d0.2.1).1;unfold sizeP at hs
 unfold tileP at htp
 have b0:0<=(stgT s p q).1.w*(stgT s p q).1.h:=Int.mul_nonneg om om
 unfold AI
 by_cases hk:s.kind=4
 · exact (by rw [if_pos hk];have c0:=(plane_sz hp).1;unfold sizeP at c0;have a0:=cols_bd (w:=p.w) (h:=p.h) (tw:=tw) (th:=th) (by unfold fineP;omega);have e0:0<=colsN p.w p.h tw th*rowsN p.w p.h tw th:=Int.mul_nonneg om om;exact ⟨fun _=>⟨rfl,rfl⟩,fun h2=>by omega⟩)
 · exact (by rw [if_neg hk];have a0:=cols_bd (w:=(stgT s p q).1.w) (h:=(stgT s p q).1.h) (tw:=tw) (th:=th) (by unfold fineP;omega);exact ⟨AsmP.start om om,rfl⟩)
theorem ai_end (htp:tileP tw th) (hA:AI s p q tw th (tkN s p q tw th) own l):own=(stgT s p q).1:=by
  have b0:=stg_ok hp hq h
  have hs:=(plane_sz b0.2.1);have a0:=hs.1;unfold sizeP at a0
  unfold tileP at htp
  unfold AI tkN at hA
  by_cases hk:s.kind=4
  · rw [if_pos hk,if_pos hk] at hA;exact hA.2 (by omega)
  · exact (by rw [if_neg hk,if_neg hk] at hA;exact AsmP.done (by unfold fineP;omega) hA.1 hs.2.1 rfl)
end
section
variable {j:JobV} {p q:PlaneV} {s:StageV} (hj:j.inputs=[p,q]) (hs:j.stages=[s]) (hz:(shpV j).2.2=0) (ha:s.a=0) (hb:twoP s->s.b=1) {tw th:Int} (htp:tileP tw th)
include hj hs hz ha hb htp
theorem one_nx:(layV j tw th).nx 2*(layV j tw th).ny 2=if s.kind=4 then colsN p.w p.h tw th*rowsN p.w p.h tw th else colsN (stgT s p q).1.w (stgT s p q).1.h tw th*rowsN (stgT s p q).1.w (stgT s p q).1.h tw th:=by
  have ht:=one_tasks hj hs hz ha hb htp
  unfold Lay.nx Lay.ny
  rw [ht.2.2]
  by_cases hk:s.kind=4
  · rw [if_pos hk,if_pos hk];rfl
  · rw [if_neg hk,if_neg hk];rfl
theorem one_n0:1<=(layV j tw th).nx 2*(layV j tw th).ny 2:=by
  exact ((lay_ok (shp_ok hz) htp).grid (x:=2) (by rw [show (layV j tw th).od=[2] from one_od hj hs hz];simp)).2.2.1
theorem one_len:(((layV j tw th).all.length:Nat):Int)=tkN s p q tw th:=by
  have ht:=one_tasks hj hs hz ha hb htp
  have hn:=one_nx hj hs hz ha hb htp
  have h0:=one_n0 hj hs hz ha hb htp
  rw [ht.1]
  unfold Lay.tasks tkN
  rw [ht.2.1,List.length_append,List.length_map,upto_len]
  by_cases hk:s.kind=4
  · rw [if_pos hk] at hn⊢;rw [if_pos hk,List.length_singleton];omega
  · rw [if_neg hk] at hn⊢;rw [if_neg hk,List.length_nil];omega
theorem one_at {t:TaskV} {k:Nat} (h:(layV j tw th).all[k]?=some t):(t.part,(⟨t.rectX0,t.rectY0,t.rectX1,t.rectY1⟩:Rct))=tkP s p q tw th (k:Int):=by
 have ht:=one_tasks hj hs hz ha hb htp
 have hn:=one_nx hj hs hz ha hb htp
 have h0:=one_n0 hj hs hz ha hb htp
 rw [ht.1] at h
 unfold Lay.tasks at h
 rw [ht.2.1] at h
 unfold tkP
 by_cases hl:k<((layV j tw th).nx 2*(layV j tw th).ny 2).toNat
 ·rw [List.getElem?_append_left (by rw [List.length_map,upto_len];exact hl),List.getElem?_map] at h
  unfold uptoV at h
  rw [List.getElem?_map,List.getElem?_range hl] at h
  simp only [Option.map_some,Option.some.injEq] at h
  subst h
  unfold Lay.tileT Lay.task Lay.tile Lay.part
  dsimp only
  rw [ht.2.1,ht.2.2]
  by_cases hk:s.kind=4
  ·rw [if_pos hk] at hn;simp only [if_pos hk];rw [if_pos om];rfl
  ·simp only [if_neg hk];rfl
 ·rw [List.getElem?_append_right (by rw [List.length_map,upto_len];omega),List.length_map,upto_len] at h
  by_cases hk:s.kind=4
  · exact (by rw [if_pos hk] at hn h;have a0:k-((layV j tw th).nx 2*(layV j tw th).ny 2).toNat=0:=(by have:=(List.getElem?_eq_some_iff.1 h).1;simp only [List.length_singleton] at this;omega);rw [a0] at h;simp only [List.getElem?_cons_zero,Option.some.injEq] at h;subst h;rw [if_pos hk,if_neg om];unfold Lay.mergeT Lay.task;dsimp only;rw [ht.2.1])
  ·rw [if_neg hk] at h;simp at h
end
theorem kerT_any_a {s:StageV} {p q u:PlaneV} {r:Rct} (h:¬twoP s):kerT s p q r=kerT s p u r:=by
  unfold kerT
  rw [decide_eq_false h,pwT_any (q:=q) (u:=u)]
theorem cmpC_any_a {s:StageV} {part:Int} {p q u own:PlaneV} (h:¬twoP s):cmpC s part p q own=cmpC s part p u own:=by
  unfold cmpC
  rw [of_any (t:=shpOf q) (u:=shpOf u) h]
  simp only [h,false_implies,true_and]
theorem cmpA_any {s:StageV} {part:Int} {r:Rct} {p q u own:PlaneV} {l:List (List Int)} (h:¬twoP s):cmpT s part r p q own l=cmpT s part r p u own l:=by
  have ht:tilT s p q own r=tilT s p u own r:=by unfold tilT;rw [kerT_any_a (q:=q) (u:=u) h]
  unfold cmpT
  rw [cmpC_any_a (q:=q) (u:=u) h,ht]
theorem cmpA_if {s:StageV} {part:Int} {r:Rct} {p q own:PlaneV} {l:List (List Int)}:cmpT s part r p (if twoP s then q else zPl) own l=cmpT s part r p q own l:=by
  by_cases h:twoP s
  · rw [if_pos h]
  · rw [if_neg h];exact cmpA_any h
theorem ceil_le {a b:Int} (ha:1<=a/\a<=128) (hb:1<=b):ceilV a b<=a:=by
  have h0:=ceil_bd ha hb
  have h1:=ceil_lt (a:=a) (b:=b) (i:=ceilV a b-1) (by omega) hb (by omega) (by omega)
  have h2:=Int.mul_le_mul_of_nonneg_left hb (show 0<=ceilV a b-1 by omega)
  omega
theorem cells_le {w h tw th:Int} (hf:fineP w h tw th):colsN w h tw th*rowsN w h tw th<=w*h:=by
  have hc:=cols_bd hf
  unfold colsN rowsN at hc⊢
  rw [if_pos hf,if_pos hf] at hc⊢
  exact Int.mul_le_mul (ceil_le hf.1 hf.2.2.1.1) (ceil_le hf.2.1 hf.2.2.2.1) (by omega) (by unfold fineP at hf;omega)
theorem ok_fine {p:PlaneV} (hp:planeOK p=true) {tw th:Int} (ht:tileP tw th):fineP p.w p.h tw th/\p.w*p.h<=4096:=by
  have h:=(plane_sz hp).1
  unfold sizeP at h;unfold tileP at ht;unfold fineP
  omega
section
variable {j:JobV} {p q:PlaneV} {s:StageV} (hj:j.inputs=[p,q]) (hs:j.stages=[s]) (ha:s.a=0) (hb:twoP s->s.b=1) {tw th:Int} (htp:tileP tw th)
include hj hs ha hb htp
theorem one_low (hp:p.w*p.h<=4095):lowC j tw th=(shpV j).2.2:=by
 unfold lowC
 by_cases hz:(shpV j).2.2=0
 ·rw [if_pos hz,if_pos htp,if_pos,hz]
  have ht:=one_tasks hj hs hz ha hb htp
  have hk:=one_ok hj hs hz ha hb
  have hn:=one_nx hj hs hz ha hb htp
  have h1:=ok_fine hk.1 htp
  have h2:=ok_fine hk.2.2.2.2.2 htp
  have h3:=cells_le h1.1
  have h4:=cells_le h2.1
  unfold Lay.total
  rw [show (layV j tw th).od=[2] from one_od hj hs hz]
  simp only [List.map_cons,List.map_nil,List.sum_cons,List.sum_nil]
  unfold Lay.cnt
  rw [ht.2.1,hn]
  by_cases h5:s.kind=4
  ·simp only [if_pos h5];omega
  ·simp only [if_neg h5];omega
 ·rw [if_neg hz]
end
section
variable {s:StageV} {p q own:PlaneV} {tw th i:Int} {l:List (List Int)} (hp:planeOK p=true) (hq:twoP s->planeOK q=true) (h:(ofV s (shpOf p) (shpOf q)).2=0)
include hp hq h
theorem tkn_le (htp:tileP tw th):tkN s p q tw th<=4097:=by
  have hf:=ok_fine hp htp
  have a0:=ok_fine (stg_ok hp hq h).2.1 htp
  have h1:=cells_le hf.1
  have h2:=cells_le a0.1
  unfold tkN
  split<;>omega
theorem ai_step (htp:tileP tw th) {a:Int} {r:Rct} (hr:(a,r)=tkP s p q tw th i) (hi:0<=i/\i<tkN s p q tw th) (hA:AI s p q tw th i own l) {zs:List Int} {c:Int} (hc:(zs,c)=cmpT s a r p (if twoP s then q else zPl) own l):
  c=0/\(a=1->AI s p q tw th (i+1) own (l++[zs]))/\(¬a=1->∀(y:PlaneV) (d:Int),(y,d)=putT own a r zs->d=0/\AI s p q tw th (i+1) y l):=by
 have hf:=ok_fine hp htp
 have d0:=ok_fine (stg_ok hp hq h).2.1 htp
 have ha:(tkP s p q tw th i).1=a:=by rw [<-hr]
 have b0:(tkP s p q tw th i).2=r:=by rw [<-hr]
 rw [cmpA_if] at hc
 have hz:zs=(cmpT s a r p q own l).1:=by rw [<-hc]
 have c0:c=(cmpT s a r p q own l).2:=by rw [<-hc]
 subst hz;subst c0
 have a0:∀(b:Int) (y:PlaneV) (d:Int),(y,d)=putT own b r (cmpT s a r p q own l).1->y=(putT own b r (cmpT s a r p q own l).1).1/\d=(putT own b r (cmpT s a r p q own l).1).2:=fun b y d e=>⟨by rw [<-e],by rw [<-e]⟩
 by_cases hk:s.kind=4
 ·by_cases hl:i<colsN p.w p.h tw th*rowsN p.w p.h tw th
  · exact (by have e:a=1:=(by rw [<-ha];unfold tkP;rw [if_pos hk,if_pos hl]);subst e;have h1:=ai_part hp hq h hk hf.1 ⟨hi.1,hl⟩ hA;rw [b0] at h1;exact ⟨h1.1,fun _=>h1.2,fun n=>absurd rfl n⟩)
  · exact (by have e:a=2:=(by rw [<-ha];unfold tkP;rw [if_pos hk,if_neg hl]);subst e;have h4:=cells_le hf.1;have h1:=ai_merge hp hq h hk hf.1 (i:=i) (by unfold tkN at hi;rw [if_pos hk] at hi;omega) om hA;rw [b0] at h1;refine ⟨h1.1,fun n=>by omega,fun _ y d e=>?_⟩;obtain ⟨rfl,rfl⟩:=a0 _ _ _ e;exact ⟨h1.2.1,h1.2.2⟩)
 · exact (by have e:a=0:=(by rw [<-ha];unfold tkP;rw [if_neg hk]);subst e;have h1:=ai_tile hp hq h hk d0.1 hi hA;rw [b0] at h1;refine ⟨h1.1,fun n=>by omega,fun _ y d e=>?_⟩;obtain ⟨rfl,rfl⟩:=a0 _ _ _ e;exact ⟨h1.2.1,h1.2.2⟩)
end
theorem l21_assembles (W w:World) (H:Chunk) (F:List Chunk) (t:Option Addr) (nt kt:Nat) (xt:List Int) (ht:RdT Go.E.encI 1 [H] t nt kt xt) (hS:Sat W w (H::F)):
  Calls prog 5 #[.slice t nt kt] w fun e w'=>e= .returned (.bool true)/\Sat W w' (H::F):=by
 have X5:=ht.le
 refine callsK 138 func5 rfl<|jCO 8 rfl<|cZ (tape_new t nt kt hS) ?_
 rintro _ _ ⟨p1,rfl,dq⟩
 have B3:=ht.le
 refine jOO 6 rfl<|cZ (tg_plane (ht.fl 0) om dq.flat1) ?_
 rintro _ _ ⟨a0,b4,rfl,t0,c0,_,_,eq⟩
 refine sAlloc (Sat.unflat2 eq) zeroValue38 fun l3 _ hq=>sTk hq 0 rfl (encPlane a0) fun _ h9=>jOC 3 rfl ?_
 have i9:=(plane_sz c0.2.2.1).1;unfold sizeP at i9;simp only [Plane.v] at i9
 refine gCO h9 6 [0,0] rfl ?_
 have iq:=(h9.pick 1 rfl)
 refine cZ (tg_sized (ht.fl 2) om iq.flat1 a0.w a0.h om) ?_
 rintro _ _ ⟨b0,c4,rfl,jq,kq,_,_,lq⟩
 refine sAlloc (Sat.unflat2 lq) zeroValue38 fun q1 _ nq=>sTk nq 0 rfl (encPlane b0) fun _ j9=>jOC 2 rfl<|cutF j9 2 [3,4,5] (γ:=Stage×Chunk×Int×Nat×Nat×Nat×Nat) (fun ⟨s1,G1,M1,b2,b6,b7,b8⟩ R=>⟨[(6,Pt b6 0)],[(p1, .cells #[.slice t nt kt,I M1] 78 (0,0))]::[(b6, .cells #[.slice (At b2 0) 2 2, .slice (At b7 0) 1 1, .slice (At b8 0) 1 1,I 0] 28 (0,0))]::[(b2, .cells #[I a0.w,I a0.h,I a0.max_, .slice a0.pix.a a0.pix.n a0.pix.k,I b0.w,I b0.h,I b0.max_, .slice b0.pix.a b0.pix.n b0.pix.k] 38 (0,0))]::G1::[(b7, .cells (encStage s1).toArray 53 (0,0))]::[(b8, .cells #[I 2] 3 (0,0))]::[(q1, .cells (encPlane b0).toArray 38 (0,0))]::R,0,(0<=M1/\M1<=nt)/\Stage.Ok [G1] s1/\stageB 0 s1/\(s1.a=0/\(s1.b=-1\/s1.b=1))⟩) ?_ ?_
 rotate_left
 ·rintro ⟨s1,G1,M1,b2,b6,b7,b8⟩ ρ _ ⟨oq,T2,X2,Y2,P1⟩
  refine jCC 1 rfl ?_
  have pq:=(oq.picks [8,2,2,4,8,9,8,8,8])
  have qq:=pq.merge6
  have rq:=(qq.pick 1 rfl)
  obtain ⟨j1,Jc,Q1,N1,R1,V5,U2,F1,H1,I1⟩:∃(j1:Job) (Jc:Chunk),Sat W _ ([(p1, .cells #[.slice t nt kt,I M1] 78 (0,0))]::Jc::[(b6, .cells (encJob j1).toArray 28 (0,0))]::[(l3, .cells (encPlane a0).toArray 38 (0,0))]::[(q1, .cells (encPlane b0).toArray 38 (0,0))]::H::F)/\Job.Ok [Jc] j1/\j1.v=⟨[a0.v,b0.v],[s1.v],[2],0⟩/\(j1.inputs.n=2/\j1.stages.n=1/\j1.outputs.n=1)/\j1.stages.l=[s1]/\Plane.Ok [Jc] a0/\Plane.Ok [Jc] b0/\Stage.Ok [Jc] s1:=by
   have F1:Plane.Ok [([(b2, .cells #[I a0.w,I a0.h,I a0.max_, .slice a0.pix.a a0.pix.n a0.pix.k,I b0.w,I b0.h,I b0.max_, .slice b0.pix.a b0.pix.n b0.pix.k] 38 (0,0))]++([(b7, .cells (encStage s1).toArray 53 (0,0))]++([(b8, .cells #[I 2] 3 (0,0))]++(b4++(c4++G1)))))] a0:=t0.of_mem mS
   have H1:Plane.Ok [([(b2, .cells #[I a0.w,I a0.h,I a0.max_, .slice a0.pix.a a0.pix.n a0.pix.k,I b0.w,I b0.h,I b0.max_, .slice b0.pix.a b0.pix.n b0.pix.k] 38 (0,0))]++([(b7, .cells (encStage s1).toArray 53 (0,0))]++([(b8, .cells #[I 2] 3 (0,0))]++(b4++(c4++G1)))))] b0:=jq.of_mem mS
   have I1:Stage.Ok [([(b2, .cells #[I a0.w,I a0.h,I a0.max_, .slice a0.pix.a a0.pix.n a0.pix.k,I b0.w,I b0.h,I b0.max_, .slice b0.pix.a b0.pix.n b0.pix.k] 38 (0,0))]++([(b7, .cells (encStage s1).toArray 53 (0,0))]++([(b8, .cells #[I 2] 3 (0,0))]++(b4++(c4++G1)))))] s1:=X2.of_mem mS
   refine ⟨(⟨⟨some ⟨b2,0,none⟩,2,2,[a0,b0]⟩,⟨some ⟨b7,0,none⟩,1,1,[s1]⟩,⟨some ⟨b8,0,none⟩,1,1,[2]⟩,0⟩:Job),([(b2, .cells #[I a0.w,I a0.h,I a0.max_, .slice a0.pix.a a0.pix.n a0.pix.k,I b0.w,I b0.h,I b0.max_, .slice b0.pix.a b0.pix.n b0.pix.k] 38 (0,0))]++([(b7, .cells (encStage s1).toArray 53 (0,0))]++([(b8, .cells #[I 2] 3 (0,0))]++(b4++(c4++G1))))),rq,⟨((RdT.blk (enc:=encPlane) (sz:=4) (xs:=[a0,b0]) (fun _=>(by rfl)) 2 0 rfl rfl rfl om:RdT encPlane 4 [[(b2, .cells #[I a0.w,I a0.h,I a0.max_, .slice a0.pix.a a0.pix.n a0.pix.k,I b0.w,I b0.h,I b0.max_, .slice b0.pix.a b0.pix.n b0.pix.k] 38 (0,0))]] (At b2 0) 2 2 [a0,b0]).of_mem mS),?_,((RdT.blk (enc:=encStage) (sz:=18) (xs:=[s1]) (fun _=>(by rfl)) 1 0 rfl rfl rfl om:RdT encStage 18 [[(b7, .cells (encStage s1).toArray 53 (0,0))]] (At b7 0) 1 1 [s1]).of_mem mS),?_,((RdT.blk (enc:=Go.E.encI) (sz:=1) (xs:=[2]) (fun _=>(by rfl)) 1 0 rfl rfl rfl om:RdT Go.E.encI 1 [[(b8, .cells #[I 2] 3 (0,0))]] (At b8 0) 1 1 [2]).of_mem mS)⟩,by rfl,⟨rfl,rfl,rfl⟩,rfl,F1,H1,I1⟩
   ·intro z hz;simp only [List.mem_cons,List.not_mem_nil,or_false] at hz;rcases hz with rfl|rfl
    ·exact F1
    ·exact H1
   ·intro z hz;rw [List.mem_singleton.1 hz];exact I1
  have C1:j1.stages.l[0]?=some s1:=by rw [U2];rfl
  refine gCO Q1 2 [402] rfl<|cZ (r18_of j1 (N1.of_mem (mF 1)) (od) Q1.flat) ?_
  rintro _ _ ⟨_,_,_,sq,m3,d4,rfl,n3,k9,l9,tq⟩
  have uq:=tq.unflat1
  have V0:=n3.ll
  refine jOC 8 rfl<|drawF uq [2,5,7] (fb 0 3 0 4<|fn) [1,4,0,2,3,5,6,7,8,9,10,11,12] fun _ vq=>wV 2<|wG 0 4<|wO rfl ?_
  have wq:=(vq.pick 1 rfl)
  refine cZ (tape_next (ht.fl 5) om wq.flat1 4 om) ?_
  rintro _ _ ⟨o0,rfl,_,_,_,xq⟩
  have m9:=xq.unflat1
  refine nZ m9 [3]<|wAdd 1 o0<|wO rfl<|cZ (tape_next (ht.fl 5) om m9.flat1 4 om) ?_
  rintro _ _ ⟨p0,rfl,_,e4,_,yq⟩
  have n9:=yq.unflat1
  refine nZ n9 [3]<|wAdd 1 p0<|wO rfl<|cZ (r20_low (F:=[]) j1 (1+o0) (1+p0) (N1.of_mem (mF 2)) om n9.flat) ?_
  rintro _ _ ⟨_,r1,_,o9,g4,h4,rfl,u0,t1,zq,ar⟩
  have w6:=ar.unflat2;have W0:=u0.len;have S0:=u0.le
  refine nA<|wV 1<|wV 1<|wV 1<|wV 2<|wN<|jXC 3 rfl ?_
  have hj:j1.v.inputs=[a0.v,b0.v]:=by rw [R1]
  have hs:j1.v.stages=[s1.v]:=by rw [R1]
  have ha:s1.v.a=0:=P1.1
  have hb:twoP s1.v->s1.v.b=1:=fun h=>by unfold twoP at h;simp only [Stage.v] at h⊢;omega
  have H0:tileP (1+o0) (1+p0):=by unfold tileP;omega
  have S2:m3=(shpV j1.v).2.2:=congrArg Prod.snd l9
  have W2:a0.v.w*a0.v.h<=4095:=by have h:=c0;have h2:=mul_bd (a:=a0.w) (b:=a0.h) (A:=6) (B:=5) om om;simp only [Plane.v];omega
  have W5:lowC j1.v (1+o0) (1+p0)=m3:=by rw [S2];exact one_low hj hs ha hb H0 W2
  refine jCO 4 rfl<|SN 57 m3 0 (fun br=>jOO 12 rfl<|(by have cr:(m3:Int)=(lowC j1.v (1+o0) (1+p0)):=(by omega);exact sFix 64 _ true (beq_iff_eq.2 cr)<|gY<|cS (l21_sane w6.flat) fun _ dr=>jOR 6 rfl<|retT [.bool true]<|⟨rfl,(dr.drops [0,0,0,0,0,0,0,0])⟩)) fun br=>jOC 5 rfl<|CN (lowC j1.v (1+o0) (1+p0)) 0 (fun fr=>jCO 6 rfl<|(by have gr:(m3:Int)=(lowC j1.v (1+o0) (1+p0)):=(by omega);exact sFix 64 _ true (beq_iff_eq.2 gr)<|gY<|cS (l21_sane w6.flat) fun _ hr=>jOR 6 rfl<|retT [.bool true]<|⟨rfl,(hr.drops [0,0,0,0,0,0,0,0])⟩)) fun fr=>jCC 3 rfl ?_
  have B1:(shpV j1.v).2.2=0:=by omega
  have V2:lowC j1.v (1+o0) (1+p0)=0:=by omega
  have C0:=one_ok hj hs B1 ha hb
  have O1:sq.map Plane.v=[a0.v,b0.v,(stgT s1.v a0.v b0.v).1]:=(congrArg Prod.fst l9).trans (one_mean hj hs B1 ha hb)
  have L1:o9.map Task.v=(layV j1.v (1+o0) (1+p0)).all:=by rw [zq];unfold lowV;rw [if_pos V2]
  have Z2:=congrArg List.length O1;simp only [List.length_map,List.length_cons,List.length_nil] at Z2
  have Z5:(o9.length:Int)=tkN s1.v a0.v b0.v (1+o0) (1+p0):=by have h:=one_len hj hs B1 ha hb H0;rwa [<-L1,List.length_map] at h
  have Y5:=tkn_le C0.1 (fun _=>C0.2.1) C0.2.2.1 H0
  obtain ⟨g0,C3,D3,o3,u1,x6⟩:=RdT.elem n3 2
  have A0:g0.v=(stgT s1.v a0.v b0.v).1:=by have h:=map_at (f:=Plane.v) o3;rw [O1] at h;exact (Option.some.inj h).symm
  refine drawG w6 [12,16,17] (fq 3 0 (u1.up 3 rfl)<|fq 7 1 (u1.up 3 rfl)<|fq 11 2 (u1.up 3 rfl)<|fn) (pS [0,1,2,4,5,6,8,9,10,3,7,11]<| .fk 12 16 (pS [13,14,15]<| .ef 16<| .ef 17<|pS [18]<| .fin) (.ef 12<|pS [13,14,15]<| .ef 17<|pS [18]<| .fin)) fun _ p9=>qV 1<|qI x6<|qV 2<|qI x6<|qV 2<|qI x6<|qV 1<|qL 0<|qL 1<|qL 2<|qF ?_ ?_
  ·refine qO rfl<|cZ (r4_new g0.w g0.h g0.max_ ((plane_sz (p:=g0.v) (by rw [A0];exact C0.2.2.2.2.2)).1) p9.flat) ?_
   rintro _ _ ⟨q9,r9,s9,t9,rfl,y6,jr⟩
   have lr:=jr.unflat1;have X0:=y6.len;have T0:=y6.le
   refine nA<|qV 1<|qV 1<|qV 1<|qO rfl<|sAlloc lr zeroValue38 fun z6 _ mr=>nA<|qO rfl<|sTk mr 0 rfl [I g0.w,I g0.h,I g0.max_, .slice q9 r9 s9] fun _ nr=>nA<|qV 1<|qN<|jXC 13 rfl<|loopF [4,5,6,7,9,11] (γ:=Nat×(List IL)×(Option Addr)×Nat×Nat×Chunk×Chunk×Plane×Chunk) (fun ⟨i,zs,G0,F0,I0,J0,E0,o1,Oc⟩ R=>⟨[(14,I (i:Int)),(13, .slice G0 F0 I0)],E0::J0::[(z6, .cells (encPlane o1).toArray 38 (0,0))]::Oc::R,r1-i,i<=r1/\OwnT encIL 22 1 G0 F0 I0 zs J0/\(∀z∈zs,IL.Ok [E0] z)/\F0<=i/\Plane.Ok [Oc] o1/\AI s1.v a0.v b0.v (1+o0) (1+p0) (i:Int) o1.v (zs.map (fun z=>z.l.l))⟩) (0,[],none,0,0,[],[],(⟨g0.w,g0.h,g0.max_,⟨q9,r9,s9,(List.replicate (g0.w*g0.h).toNat 0)⟩⟩:Plane),t9) ⟨(Sat.nilc (Sat.nilc nr)),om,(OwnT.nil (enc:=encIL) (E:=22) (sz:=1) fR),(by intro z hz;cases hz),om,⟨(y6.rdAt (cs:=[t9]) 0 rfl)⟩,(by have h:=ai_start C0.1 (fun _=>C0.2.1) C0.2.2.1 H0;rw [<-A0] at h;exact h)⟩ ?_
   rintro ⟨i,zs,G0,F0,I0,J0,E0,o1,Oc⟩ ρ _ ⟨u9,hi,B0,D0,A3,K0,R0⟩
   have E1:=B0.len;have D1:=B0.le
   refine jCC 9 rfl<|CD ((i:Int)<(r1:Int)) (fun sr=>jCC 6 rfl<|(by obtain ⟨tr,E3,F3,v9,ur,vr⟩:=RdT.elem n3 2;obtain rfl:g0=tr:=Option.some.inj (o3.symm.trans v9);have A0:g0.v=(stgT s1.v a0.v b0.v).1:=(by have h:=map_at (f:=Plane.v) v9;rw [O1] at h;exact (Option.some.inj h).symm);exact drawF u9 [4,6] (fb 0 2 0 4<|fp 3 (ur.up 7 rfl)<|fn) [1,2,0,3,4,5,6,7,8] fun _ xr=>wV 1<|wI vr<|wG 0 4<|wG 4 4<|wO rfl<|cS (r4_equal o1 g0 ⟨(K0.pix.fl 3)⟩ ⟨(RdT.flat ((k9 g0 (List.mem_of_getElem? o3)).pix.up 7 (by rfl)))⟩ xr.flat) fun _ yr=>nA<|wV 1<|(by have zr:o1.v=g0.v:=(by have h:=u0.len;have h2:(i:Int)=tkN s1.v a0.v b0.v (1+o0) (1+p0):=om;rw [h2] at R0;exact (ai_end C0.1 (fun _=>C0.2.1) C0.2.2.1 H0 R0).trans A0.symm);exact wFix 135 _ true (decide_eq_true zr)<|wO rfl<|gY<|cS (l21_sane yr.flat) fun _ ds=>nA<|wV 1<|wV 1<|wN<|jXR 2 rfl<|retT [.bool true]<|⟨rfl,(ds.drops [0,0,0,0,0,0,0,0,0,0,0,0])⟩))) fun sr=>jCC 5 rfl ?_
   obtain ⟨q0,G3,H3,p3,w9,x9,I3⟩:=OwnT.eN u0 i
   have J1:(q0.part,(⟨q0.rectX0,q0.rectY0,q0.rectX1,q0.rectY1⟩:Rct))=tkP s1.v a0.v b0.v (1+o0) (1+p0) (i:Int):=one_at hj hs B1 ha hb H0 (t:=q0.v) (by rw [<-L1];exact map_at (f:=Task.v) p3)
   have K1:0<=(i:Int)/\(i:Int)<tkN s1.v a0.v b0.v (1+o0) (1+p0):=by have h:=u0.len;omega
   obtain ⟨fs,J3,K3,gs,js,ks⟩:=RdT.elem N1.stages 0
   obtain rfl:s1=fs:=Option.some.inj (C1.symm.trans gs)
   refine drawF u9 [12] (fb 1 9 1 1<|fp 3 (js.up 8 rfl)<|fp 7 (w9.up 4 rfl)<|fb 8 10 0 4<|fb 9 11 0 4<|fb 10 2 0 4<|fn) [0,4,5,6,11,1,2,3,7,8,9,10,12,13,14,15,16,17] fun _ ls=>wV 3<|wI x9<|wV 1<|wL 0<|wI ks<|wG 1 18<|wG 19 9<|wG 28 4<|wG 32 4<|wG 36 4<|wO rfl<|cZ (p21_compute s1 q0 a0 b0 o1 G0 F0 I0 zs (I1.of_mem (mF 8)) ⟨(RdT.flat ((t1 q0 (List.mem_of_getElem? p3)).deps.up 5 (by rfl)))⟩ ⟨(F1.pix.fl 8)⟩ ⟨(H1.pix.fl 8)⟩ ⟨(K0.pix.fl 3)⟩ (RdT.flat (B0.rdAt 1 (by rfl))) (fun z hz=>(D0 z hz).of_mem (mF 0)) ls.flat) ?_
   rintro _ _ ⟨q3,r3,s3,i4,ms,a7,rfl,t3,ns,os⟩
   have j4:=os.unflat1
   have Y0:=t3.ll
   have c7:=ai_step C0.1 (fun _=>C0.2.1) C0.2.2.1 H0 J1 K1 R0 ns
   refine nZ j4 [10]<|wV 1<|wV 1<|wV 1<|wV 2<|wN<|jXC 8 rfl<|CN ms 0 (fun ps=>jCR 12 rfl<|retT [.bool false]<|(by first|omega)) fun ps=>jCO 7 rfl<|sIO u0 (i:Int) i fun qs _ _ k4 rs _=>?_
   obtain rfl:q0=qs:=Option.some.inj (p3.symm.trans k4)
   have J1:(q0.part,(⟨q0.rectX0,q0.rectY0,q0.rectX1,q0.rectY1⟩:Rct))=tkP s1.v a0.v b0.v (1+o0) (1+p0) (i:Int):=one_at hj hs B1 ha hb H0 (t:=q0.v) (by rw [<-L1];exact map_at (f:=Task.v) k4)
   have K1:0<=(i:Int)/\(i:Int)<tkN s1.v a0.v b0.v (1+o0) (1+p0):=by have h:=u0.len;omega
   refine pu1<|sMp j4 (rs.up 5 rfl) 1 (I q0.part)<|jOC 3 rfl<|cE q0.part 1 (fun ss=>?_) (fun ss=>?_)
   ·refine jCO 4 rfl<|sBK j4 #[.slice q3 r3 s3] 22 fun _ _ ts=>sApp (nb:=24) ts B0 3 (RdT.blk (enc:=encIL) (sz:=1) (xs:=[(⟨⟨q3,r3,s3,i4⟩⟩:IL)]) fR 1 0 rfl rfl rfl om) underlying42 (i:=Tryz.t22) kr fR fun us vs d7 _ ws ys=>jOO 9 rfl<|sAdd (i:Int) 1<|jOI 2 rfl ?_
    have bt:=(ys.dropAt 0 rfl)
    exact ⟨(i+1,(zs++[(⟨⟨q3,r3,s3,i4⟩⟩:IL)]),us,(F0+1),vs,d7,(a7++E0),o1,Oc),od,alB,(Sat.perm (cs':=(a7++E0)::(d7::[(z6, .cells (encPlane o1).toArray 38 (0,0))]::Oc::g4::h4::[(p1, .cells #[.slice t nt kt,I e4] 78 (0,0))]::d4::Jc::[(b6, .cells (encJob j1).toArray 28 (0,0))]::[(l3, .cells (encPlane a0).toArray 38 (0,0))]::[(q1, .cells (encPlane b0).toArray 38 (0,0))]::H::F)) (show Sat W _ (a7::E0::d7::[(z6, .cells (encPlane o1).toArray 38 (0,0))]::Oc::g4::h4::[(p1, .cells #[.slice t nt kt,I e4] 78 (0,0))]::d4::Jc::[(b6, .cells (encJob j1).toArray 28 (0,0))]::[(l3, .cells (encPlane a0).toArray 38 (0,0))]::[(q1, .cells (encPlane b0).toArray 38 (0,0))]::H::F) from bt) (by simp)),om,ws,(by
      intro z hz
      rcases List.mem_append.1 hz with h|h
      ·exact (D0 z h).of_mem mS
      ·simp only [List.mem_singleton] at h;subst h;exact ⟨t3.of_mem mS⟩),om,K0,(by have h:=c7.2.1 om;rw [List.map_append];exact h)⟩
   refine jCC 3 rfl ?_
   obtain ⟨dt,L3,M3,y9,b1,z9,N3⟩:=OwnT.eN u0 i
   obtain rfl:q0=dt:=Option.some.inj (p3.symm.trans y9)
   refine drawG j4 [6,10,11] (fb 0 3 0 4<|fp 4 (b1.up 5 rfl)<|fn) (pS [1,2,3,5,0,4]<| .fk 6 10 (pS [7,8,9]<| .ef 10<| .ef 11<|pS [12]<| .fin) (.ef 6<|pS [7,8,9]<| .ef 11<|pS [12]<| .fin)) fun _ aa=>qV 2<|qI z9<|qV 1<|qG 0 4<|qG 4 9<|qF ?_ ?_
   · exact qO rfl<|cZ (p21_put o1 q0 q3 r3 s3 i4 ⟨(K0.pix.fl 4)⟩ ⟨(RdT.flat ((t1 q0 (List.mem_of_getElem? k4)).deps.up 6 (by rfl)))⟩ (t3.fl 0) aa.flat)<|(by rintro _ _ ⟨e7,et,ft,rfl,f7,gt,it⟩;have jt:=it.unflat1;have N0:=f7.pix.len;have L0:=f7.pix.le;have lt:=c7.2.2 om _ _ gt;exact nA<|qV 1<|qV 1<|qV 1<|qO rfl<|sAlloc jt zeroValue38 fun _ _ mt=>nA<|qO rfl<|sTk mt 0 rfl (encPlane e7) fun _ ba=>nA<|qV 1<|qN<|jXC 8 rfl<|CN et 0 (fun ot=>jCR 12 rfl<|retT [.bool false]<|(by first|omega)) fun ot=>gCO ba 4 [400] rfl<|sTk ba 5 rfl (encPlane e7) fun _ pt=>jOO 5 rfl<|sAdd (i:Int) 1<|jOI 2 rfl<|⟨(i+1,zs,G0,F0,I0,J0,E0,e7,ft),od,alB,((pt.picks [5,5,5]).drops [3,4,4]),om,B0,D0,om,f7,lt.2⟩)
   refine qO rfl<|sAlloc aa zeroValue38 fun _ _ v0=>nilO ⟨⟨cI v0 4,cI v0 4,cI v0 4,cI v0 4, .inr ((b1.up 6 rfl).cell v0 (k:=0) rfl), .inr ((b1.up 6 rfl).cell v0 (k:=1) rfl), .inr ((b1.up 6 rfl).cell v0 (k:=2) rfl), .inr ((b1.up 6 rfl).cell v0 (k:=3) rfl), .inr ((b1.up 6 rfl).cell v0 (k:=4) rfl), .inr ((b1.up 6 rfl).cell v0 (k:=5) rfl), .inr ((b1.up 6 rfl).cell v0 (k:=6) rfl), .inr ((b1.up 6 rfl).cell v0 (k:=7) rfl), .inr ((b1.up 6 rfl).cell v0 (k:=8) rfl),trivial⟩,?_⟩
   refine qO rfl<|cZ (p21_put o1 q0 q3 r3 s3 i4 ⟨(K0.pix.fl 5)⟩ ⟨(RdT.flat ((t1 q0 (List.mem_of_getElem? k4)).deps.up 7 (by rfl)))⟩ (t3.fl 1) v0.flat) ?_
   rintro _ _ ⟨g7,rt,st,rfl,h7,tt,ut⟩
   have vt:=ut.unflat1
   have O0:=h7.pix.ll
   have wt:=c7.2.2 om _ _ tt
   exact nA<|qV 1<|qV 1<|qV 1<|qO rfl<|sTk vt 1 rfl (encPlane g7) fun _ ca=>nA<|qV 1<|qN<|jXC 8 rfl<|CN rt 0 (fun yt=>jCR 12 rfl<|retT [.bool false]<|(by first|omega)) fun yt=>gCO ca 4 [401] rfl<|sTk ca 5 rfl (encPlane g7) fun _ zt=>jOO 5 rfl<|sAdd (i:Int) 1<|jOI 2 rfl<|⟨(i+1,zs,G0,F0,I0,J0,E0,g7,st),od,alB,((zt.picks [5,5,5]).drops [4,4,4]),om,B0,D0,om,h7,wt.2⟩
  refine qO rfl<|sAlloc p9 zeroValue38 fun i7 _ l4=>nilO ⟨⟨.inr ((u1.up 4 rfl).cell l4 (k:=0) rfl), .inr ((u1.up 4 rfl).cell l4 (k:=1) rfl), .inr ((u1.up 4 rfl).cell l4 (k:=2) rfl),trivial⟩,?_⟩
  refine qO rfl<|cZ (r4_new g0.w g0.h g0.max_ ((plane_sz (p:=g0.v) (by rw [A0];exact C0.2.2.2.2.2)).1) l4.flat) ?_
  rintro _ _ ⟨da,ea,fa,ga,rfl,j7,bu⟩
  have cu:=bu.unflat1;have Z0:=j7.len;have U0:=j7.le
  refine nA<|qV 1<|qV 1<|qV 1<|qO rfl<|sTk cu 1 rfl [I g0.w,I g0.h,I g0.max_, .slice da ea fa] fun _ du=>nA<|qV 1<|qN<|jXC 13 rfl<|loopF [4,5,6,7,9,11] (γ:=Nat×(List IL)×(Option Addr)×Nat×Nat×Chunk×Chunk×Plane×Chunk) (fun ⟨i,zs,G0,F0,I0,J0,E0,o1,Oc⟩ R=>⟨[(14,I (i:Int)),(13, .slice G0 F0 I0)],E0::J0::Oc::[(i7, .cells (encPlane o1).toArray 38 (0,0))]::R,r1-i,i<=r1/\OwnT encIL 22 1 G0 F0 I0 zs J0/\(∀z∈zs,IL.Ok [E0] z)/\F0<=i/\Plane.Ok [Oc] o1/\AI s1.v a0.v b0.v (1+o0) (1+p0) (i:Int) o1.v (zs.map (fun z=>z.l.l))⟩) (0,[],none,0,0,[],[],(⟨g0.w,g0.h,g0.max_,⟨da,ea,fa,(List.replicate (g0.w*g0.h).toNat 0)⟩⟩:Plane),ga) ⟨(Sat.nilc (Sat.nilc du)),om,(OwnT.nil (enc:=encIL) (E:=22) (sz:=1) fR),(by intro z hz;cases hz),om,⟨(j7.rdAt (cs:=[ga]) 0 rfl)⟩,(by have h:=ai_start C0.1 (fun _=>C0.2.1) C0.2.2.1 H0;rw [<-A0] at h;exact h)⟩ ?_
  rintro ⟨i,zs,G0,F0,I0,J0,E0,o1,Oc⟩ ρ _ ⟨ia,hi,B0,D0,A3,K0,R0⟩
  have E1:=B0.len;have D1:=B0.le
  refine jCC 9 rfl<|CD ((i:Int)<(r1:Int)) (fun hu=>jCC 6 rfl<|(by obtain ⟨iu,O3,P3,ja,ju,ku⟩:=RdT.elem n3 2;obtain rfl:g0=iu:=Option.some.inj (o3.symm.trans ja);have A0:g0.v=(stgT s1.v a0.v b0.v).1:=(by have h:=map_at (f:=Plane.v) ja;rw [O1] at h;exact (Option.some.inj h).symm);exact drawF ia [4,6] (fb 0 3 0 4<|fp 3 (ju.up 7 rfl)<|fn) [1,2,0,3,4,5,6,7,8] fun _ lu=>wV 1<|wI ku<|wG 0 4<|wG 4 4<|wO rfl<|cS (r4_equal o1 g0 ⟨(K0.pix.fl 2)⟩ ⟨(RdT.flat ((k9 g0 (List.mem_of_getElem? o3)).pix.up 7 (by rfl)))⟩ lu.flat) fun _ mu=>nA<|wV 1<|(by have nu:o1.v=g0.v:=(by have h:=u0.len;have h2:(i:Int)=tkN s1.v a0.v b0.v (1+o0) (1+p0):=om;rw [h2] at R0;exact (ai_end C0.1 (fun _=>C0.2.1) C0.2.2.1 H0 R0).trans A0.symm);exact wFix 135 _ true (decide_eq_true nu)<|wO rfl<|gY<|cS (l21_sane mu.flat) fun _ ou=>nA<|wV 1<|wV 1<|wN<|jXR 2 rfl<|retT [.bool true]<|⟨rfl,(ou.drops [0,0,0,0,0,0,0,0,0,0,0,0])⟩))) fun hu=>jCC 5 rfl ?_
  obtain ⟨r0,Q3,R3,u3,ka,la,S3⟩:=OwnT.eN u0 i
  have J1:(r0.part,(⟨r0.rectX0,r0.rectY0,r0.rectX1,r0.rectY1⟩:Rct))=tkP s1.v a0.v b0.v (1+o0) (1+p0) (i:Int):=one_at hj hs B1 ha hb H0 (t:=r0.v) (by rw [<-L1];exact map_at (f:=Task.v) u3)
  have K1:0<=(i:Int)/\(i:Int)<tkN s1.v a0.v b0.v (1+o0) (1+p0):=by have h:=u0.len;omega
  obtain ⟨qu,T3,U3,ru,su,tu⟩:=RdT.elem N1.stages 0
  obtain rfl:s1=qu:=Option.some.inj (C1.symm.trans ru)
  refine drawF ia [12] (fb 1 9 1 1<|fp 3 (su.up 8 rfl)<|fp 7 (ka.up 4 rfl)<|fb 8 10 0 4<|fb 9 11 0 4<|fb 10 3 0 4<|fn) [0,4,5,6,11,1,2,3,7,8,9,10,12,13,14,15,16,17] fun _ uu=>wV 3<|wI la<|wV 1<|wL 0<|wI tu<|wG 1 18<|wG 19 9<|wG 28 4<|wG 32 4<|wG 36 4<|wO rfl<|cZ (p21_compute s1 r0 a0 b0 o1 G0 F0 I0 zs (I1.of_mem (mF 8)) ⟨(RdT.flat ((t1 r0 (List.mem_of_getElem? u3)).deps.up 5 (by rfl)))⟩ ⟨(F1.pix.fl 8)⟩ ⟨(H1.pix.fl 8)⟩ ⟨(K0.pix.fl 2)⟩ (RdT.flat (B0.rdAt 1 (by rfl))) (fun z hz=>(D0 z hz).of_mem (mF 0)) uu.flat) ?_
  rintro _ _ ⟨v3,w3,x3,m4,vu,k7,rfl,y3,wu,xu⟩
  have n4:=xu.unflat1
  have A1:=y3.ll
  have l7:=ai_step C0.1 (fun _=>C0.2.1) C0.2.2.1 H0 J1 K1 R0 wu
  refine nZ n4 [10]<|wV 1<|wV 1<|wV 1<|wV 2<|wN<|jXC 8 rfl<|CN vu 0 (fun yu=>jCR 12 rfl<|retT [.bool false]<|(by first|omega)) fun yu=>jCO 7 rfl<|sIO u0 (i:Int) i fun zu _ _ o4 av _=>?_
  obtain rfl:r0=zu:=Option.some.inj (u3.symm.trans o4)
  have J1:(r0.part,(⟨r0.rectX0,r0.rectY0,r0.rectX1,r0.rectY1⟩:Rct))=tkP s1.v a0.v b0.v (1+o0) (1+p0) (i:Int):=one_at hj hs B1 ha hb H0 (t:=r0.v) (by rw [<-L1];exact map_at (f:=Task.v) o4)
  have K1:0<=(i:Int)/\(i:Int)<tkN s1.v a0.v b0.v (1+o0) (1+p0):=by have h:=u0.len;omega
  refine pu1<|sMp n4 (av.up 5 rfl) 1 (I r0.part)<|jOC 3 rfl<|cE r0.part 1 (fun bv=>?_) (fun bv=>?_)
  ·refine jCO 4 rfl<|sBK n4 #[.slice v3 w3 x3] 22 fun _ _ cv=>sApp (nb:=24) cv B0 3 (RdT.blk (enc:=encIL) (sz:=1) (xs:=[(⟨⟨v3,w3,x3,m4⟩⟩:IL)]) fR 1 0 rfl rfl rfl om) underlying42 (i:=Tryz.t22) kr fR fun dv fv m7 _ gv hv=>jOO 9 rfl<|sAdd (i:Int) 1<|jOI 2 rfl ?_
   have iv:=(hv.dropAt 0 rfl)
   exact ⟨(i+1,(zs++[(⟨⟨v3,w3,x3,m4⟩⟩:IL)]),dv,(F0+1),fv,m7,(k7++E0),o1,Oc),od,alB,(Sat.perm (cs':=(k7++E0)::(m7::Oc::[(i7, .cells (encPlane o1).toArray 38 (0,0))]::g4::h4::[(p1, .cells #[.slice t nt kt,I e4] 78 (0,0))]::d4::Jc::[(b6, .cells (encJob j1).toArray 28 (0,0))]::[(l3, .cells (encPlane a0).toArray 38 (0,0))]::[(q1, .cells (encPlane b0).toArray 38 (0,0))]::H::F)) (show Sat W _ (k7::E0::m7::Oc::[(i7, .cells (encPlane o1).toArray 38 (0,0))]::g4::h4::[(p1, .cells #[.slice t nt kt,I e4] 78 (0,0))]::d4::Jc::[(b6, .cells (encJob j1).toArray 28 (0,0))]::[(l3, .cells (encPlane a0).toArray 38 (0,0))]::[(q1, .cells (encPlane b0).toArray 38 (0,0))]::H::F) from iv) (by simp)),om,gv,(by
     intro z hz
     rcases List.mem_append.1 hz with h|h
     ·exact (D0 z h).of_mem mS
     ·simp only [List.mem_singleton] at h;subst h;exact ⟨y3.of_mem mS⟩),om,K0,(by have h:=l7.2.1 om;rw [List.map_append];exact h)⟩
  refine jCC 3 rfl ?_
  obtain ⟨kv,V3,W3,ma,c1,na,X3⟩:=OwnT.eN u0 i
  obtain rfl:r0=kv:=Option.some.inj (u3.symm.trans ma)
  refine drawG n4 [6,10,11] (fb 0 4 0 4<|fp 4 (c1.up 5 rfl)<|fn) (pS [1,2,3,5,0,4]<| .fk 6 10 (pS [7,8,9]<| .ef 10<| .ef 11<|pS [12]<| .fin) (.ef 6<|pS [7,8,9]<| .ef 11<|pS [12]<| .fin)) fun _ oa=>qV 2<|qI na<|qV 1<|qG 0 4<|qG 4 9<|qF ?_ ?_
  · exact qO rfl<|cZ (p21_put o1 r0 v3 w3 x3 m4 ⟨(K0.pix.fl 3)⟩ ⟨(RdT.flat ((t1 r0 (List.mem_of_getElem? o4)).deps.up 6 (by rfl)))⟩ (y3.fl 0) oa.flat)<|(by rintro _ _ ⟨n7,lv,mv,rfl,o7,nv,ov⟩;have pv:=ov.unflat1;have P0:=o7.pix.len;have M0:=o7.pix.le;have qv:=l7.2.2 om _ _ nv;exact nA<|qV 1<|qV 1<|qV 1<|qO rfl<|sAlloc pv zeroValue38 fun _ _ rv=>nA<|qO rfl<|sTk rv 0 rfl (encPlane n7) fun _ pa=>nA<|qV 1<|qN<|jXC 8 rfl<|CN lv 0 (fun sv=>jCR 12 rfl<|retT [.bool false]<|(by first|omega)) fun sv=>gCO pa 4 [400] rfl<|sTk pa 6 rfl (encPlane n7) fun _ tv=>jOO 5 rfl<|sAdd (i:Int) 1<|jOI 2 rfl<|⟨(i+1,zs,G0,F0,I0,J0,E0,n7,mv),od,alB,((tv.picks [4,4]).drops [2,3,3]),om,B0,D0,om,o7,qv.2⟩)
  refine qO rfl<|sAlloc oa zeroValue38 fun _ _ w0=>nilO ⟨⟨cI w0 5,cI w0 5,cI w0 5,cI w0 5, .inr ((c1.up 6 rfl).cell w0 (k:=0) rfl), .inr ((c1.up 6 rfl).cell w0 (k:=1) rfl), .inr ((c1.up 6 rfl).cell w0 (k:=2) rfl), .inr ((c1.up 6 rfl).cell w0 (k:=3) rfl), .inr ((c1.up 6 rfl).cell w0 (k:=4) rfl), .inr ((c1.up 6 rfl).cell w0 (k:=5) rfl), .inr ((c1.up 6 rfl).cell w0 (k:=6) rfl), .inr ((c1.up 6 rfl).cell w0 (k:=7) rfl), .inr ((c1.up 6 rfl).cell w0 (k:=8) rfl),trivial⟩,?_⟩
  refine qO rfl<|cZ (p21_put o1 r0 v3 w3 x3 m4 ⟨(K0.pix.fl 4)⟩ ⟨(RdT.flat ((t1 r0 (List.mem_of_getElem? o4)).deps.up 7 (by rfl)))⟩ (y3.fl 1) w0.flat) ?_
  rintro _ _ ⟨p7,vv,wv,rfl,q7,xv,yv⟩
  have zv:=yv.unflat1
  have Q0:=q7.pix.ll
  have aw:=l7.2.2 om _ _ xv
  exact nA<|qV 1<|qV 1<|qV 1<|qO rfl<|sTk zv 1 rfl (encPlane p7) fun _ qa=>nA<|qV 1<|qN<|jXC 8 rfl<|CN vv 0 (fun bw=>jCR 12 rfl<|retT [.bool false]<|(by first|omega)) fun bw=>gCO qa 4 [401] rfl<|sTk qa 6 rfl (encPlane p7) fun _ cw=>jOO 5 rfl<|sAdd (i:Int) 1<|jOI 2 rfl<|⟨(i+1,zs,G0,F0,I0,J0,E0,p7,wv),od,alB,((cw.picks [4,4]).drops [3,3,3]),om,B0,D0,om,q7,aw.2⟩
 have ra:=(plane_sz kq.2.2.1).1;unfold sizeP at ra;simp only [Plane.v] at ra
 refine drawG j9 [2,5,6,7,8,10,11] (fb 0 3 0 4<|fb 1 0 0 4<|fb 4 3 0 4<|fn) (pS [3,0,1,4]<| .f4 2 5 8 10 (.f3 5 8 10 (.f3 6 8 10 (.f3 7 8 10 (.fk 8 10 (pS [9]<| .ef 10<| .ef 11<| .fin) (.ef 8<|pS [9]<| .ef 11<| .fin)) (.fk 7 10 (pS [9]<| .ef 10<| .ef 11<| .fin) (.ef 7<|pS [9]<| .ef 11<| .fin)) (.fk 7 8 (.ef 8<|pS [9]<| .ef 11<| .fin) (.ef 7<|pS [9]<| .ef 11<| .fin))) (.fk 6 10 (.fk 7 10 (pS [9]<| .ef 10<| .ef 11<| .fin) (.ef 7<|pS [9]<| .ef 11<| .fin)) (.ef 6<| .ef 7<|pS [9]<| .ef 11<| .fin)) (.fk 6 8 (.fk 7 8 (.ef 8<|pS [9]<| .ef 11<| .fin) (.ef 7<|pS [9]<| .ef 11<| .fin)) (.ef 6<| .ef 7<|pS [9]<| .ef 11<| .fin))) (.fk 5 10 (.fk 6 10 (.fk 7 10 (pS [9]<| .ef 10<| .ef 11<| .fin) (.ef 7<|pS [9]<| .ef 11<| .fin)) (.ef 6<| .ef 7<|pS [9]<| .ef 11<| .fin)) (.ef 5<| .ef 6<| .ef 7<|pS [9]<| .ef 11<| .fin)) (.fk 5 8 (.fk 6 8 (.fk 7 8 (.ef 8<|pS [9]<| .ef 11<| .fin) (.ef 7<|pS [9]<| .ef 11<| .fin)) (.ef 6<| .ef 7<|pS [9]<| .ef 11<| .fin)) (.ef 5<| .ef 6<| .ef 7<|pS [9]<| .ef 11<| .fin))) (.f4 2 6 8 10 (.f3 6 8 10 (.f3 7 8 10 (.fk 8 10 (pS [9]<| .ef 10<| .ef 11<| .fin) (.ef 8<|pS [9]<| .ef 11<| .fin)) (.fk 7 10 (pS [9]<| .ef 10<| .ef 11<| .fin) (.ef 7<|pS [9]<| .ef 11<| .fin)) (.fk 7 8 (.ef 8<|pS [9]<| .ef 11<| .fin) (.ef 7<|pS [9]<| .ef 11<| .fin))) (.fk 6 10 (.fk 7 10 (pS [9]<| .ef 10<| .ef 11<| .fin) (.ef 7<|pS [9]<| .ef 11<| .fin)) (.ef 6<| .ef 7<|pS [9]<| .ef 11<| .fin)) (.fk 6 8 (.fk 7 8 (.ef 8<|pS [9]<| .ef 11<| .fin) (.ef 7<|pS [9]<| .ef 11<| .fin)) (.ef 6<| .ef 7<|pS [9]<| .ef 11<| .fin))) (.f4 2 7 8 10 (.f3 7 8 10 (.fk 8 10 (pS [9]<| .ef 10<| .ef 11<| .fin) (.ef 8<|pS [9]<| .ef 11<| .fin)) (.fk 7 10 (pS [9]<| .ef 10<| .ef 11<| .fin) (.ef 7<|pS [9]<| .ef 11<| .fin)) (.fk 7 8 (.ef 8<|pS [9]<| .ef 11<| .fin) (.ef 7<|pS [9]<| .ef 11<| .fin))) (.f3 2 8 10 (.fk 8 10 (pS [9]<| .ef 10<| .ef 11<| .fin) (.ef 8<|pS [9]<| .ef 11<| .fin)) (.fk 2 10 (pS [9]<| .ef 10<| .ef 11<| .fin) (.ef 2<|pS [9]<| .ef 11<| .fin)) (.fk 2 8 (.ef 8<|pS [9]<| .ef 11<| .fin) (.ef 2<|pS [9]<| .ef 11<| .fin))) (.f3 2 7 10 (.fk 7 10 (pS [9]<| .ef 10<| .ef 11<| .fin) (.ef 7<|pS [9]<| .ef 11<| .fin)) (.fk 2 10 (pS [9]<| .ef 10<| .ef 11<| .fin) (.ef 2<|pS [9]<| .ef 11<| .fin)) (.fk 2 7 (.ef 7<|pS [9]<| .ef 11<| .fin) (.ef 2<|pS [9]<| .ef 11<| .fin))) (.f3 2 7 8 (.fk 7 8 (.ef 8<|pS [9]<| .ef 11<| .fin) (.ef 7<|pS [9]<| .ef 11<| .fin)) (.fk 2 8 (.ef 8<|pS [9]<| .ef 11<| .fin) (.ef 2<|pS [9]<| .ef 11<| .fin)) (.fk 2 7 (.ef 7<|pS [9]<| .ef 11<| .fin) (.ef 2<|pS [9]<| .ef 11<| .fin)))) (.f3 2 6 10 (.fk 6 10 (.fk 7 10 (pS [9]<| .ef 10<| .ef 11<| .fin) (.ef 7<|pS [9]<| .ef 11<| .fin)) (.ef 6<| .ef 7<|pS [9]<| .ef 11<| .fin)) (.f3 2 7 10 (.fk 7 10 (pS [9]<| .ef 10<| .ef 11<| .fin) (.ef 7<|pS [9]<| .ef 11<| .fin)) (.fk 2 10 (pS [9]<| .ef 10<| .ef 11<| .fin) (.ef 2<|pS [9]<| .ef 11<| .fin)) (.fk 2 7 (.ef 7<|pS [9]<| .ef 11<| .fin) (.ef 2<|pS [9]<| .ef 11<| .fin))) (.fk 2 6 (.ef 6<| .ef 7<|pS [9]<| .ef 11<| .fin) (.fk 2 7 (.ef 7<|pS [9]<| .ef 11<| .fin) (.ef 2<|pS [9]<| .ef 11<| .fin)))) (.f3 2 6 8 (.fk 6 8 (.fk 7 8 (.ef 8<|pS [9]<| .ef 11<| .fin) (.ef 7<|pS [9]<| .ef 11<| .fin)) (.ef 6<| .ef 7<|pS [9]<| .ef 11<| .fin)) (.f3 2 7 8 (.fk 7 8 (.ef 8<|pS [9]<| .ef 11<| .fin) (.ef 7<|pS [9]<| .ef 11<| .fin)) (.fk 2 8 (.ef 8<|pS [9]<| .ef 11<| .fin) (.ef 2<|pS [9]<| .ef 11<| .fin)) (.fk 2 7 (.ef 7<|pS [9]<| .ef 11<| .fin) (.ef 2<|pS [9]<| .ef 11<| .fin))) (.fk 2 6 (.ef 6<| .ef 7<|pS [9]<| .ef 11<| .fin) (.fk 2 7 (.ef 7<|pS [9]<| .ef 11<| .fin) (.ef 2<|pS [9]<| .ef 11<| .fin))))) (.f3 2 5 10 (.fk 5 10 (.fk 6 10 (.fk 7 10 (pS [9]<| .ef 10<| .ef 11<| .fin) (.ef 7<|pS [9]<| .ef 11<| .fin)) (.ef 6<| .ef 7<|pS [9]<| .ef 11<| .fin)) (.ef 5<| .ef 6<| .ef 7<|pS [9]<| .ef 11<| .fin)) (.f3 2 6 10 (.fk 6 10 (.fk 7 10 (pS [9]<| .ef 10<| .ef 11<| .fin) (.ef 7<|pS [9]<| .ef 11<| .fin)) (.ef 6<| .ef 7<|pS [9]<| .ef 11<| .fin)) (.f3 2 7 10 (.fk 7 10 (pS [9]<| .ef 10<| .ef 11<| .fin) (.ef 7<|pS [9]<| .ef 11<| .fin)) (.fk 2 10 (pS [9]<| .ef 10<| .ef 11<| .fin) (.ef 2<|pS [9]<| .ef 11<| .fin)) (.fk 2 7 (.ef 7<|pS [9]<| .ef 11<| .fin) (.ef 2<|pS [9]<| .ef 11<| .fin))) (.fk 2 6 (.ef 6<| .ef 7<|pS [9]<| .ef 11<| .fin) (.fk 2 7 (.ef 7<|pS [9]<| .ef 11<| .fin) (.ef 2<|pS [9]<| .ef 11<| .fin)))) (.fk 2 5 (.ef 5<| .ef 6<| .ef 7<|pS [9]<| .ef 11<| .fin) (.fk 2 6 (.ef 6<| .ef 7<|pS [9]<| .ef 11<| .fin) (.fk 2 7 (.ef 7<|pS [9]<| .ef 11<| .fin) (.ef 2<|pS [9]<| .ef 11<| .fin))))) (.f3 2 5 8 (.fk 5 8 (.fk 6 8 (.fk 7 8 (.ef 8<|pS [9]<| .ef 11<| .fin) (.ef 7<|pS [9]<| .ef 11<| .fin)) (.ef 6<| .ef 7<|pS [9]<| .ef 11<| .fin)) (.ef 5<| .ef 6<| .ef 7<|pS [9]<| .ef 11<| .fin)) (.f3 2 6 8 (.fk 6 8 (.fk 7 8 (.ef 8<|pS [9]<| .ef 11<| .fin) (.ef 7<|pS [9]<| .ef 11<| .fin)) (.ef 6<| .ef 7<|pS [9]<| .ef 11<| .fin)) (.f3 2 7 8 (.fk 7 8 (.ef 8<|pS [9]<| .ef 11<| .fin) (.ef 7<|pS [9]<| .ef 11<| .fin)) (.fk 2 8 (.ef 8<|pS [9]<| .ef 11<| .fin) (.ef 2<|pS [9]<| .ef 11<| .fin)) (.fk 2 7 (.ef 7<|pS [9]<| .ef 11<| .fin) (.ef 2<|pS [9]<| .ef 11<| .fin))) (.fk 2 6 (.ef 6<| .ef 7<|pS [9]<| .ef 11<| .fin) (.fk 2 7 (.ef 7<|pS [9]<| .ef 11<| .fin) (.ef 2<|pS [9]<| .ef 11<| .fin)))) (.fk 2 5 (.ef 5<| .ef 6<| .ef 7<|pS [9]<| .ef 11<| .fin) (.fk 2 6 (.ef 6<| .ef 7<|pS [9]<| .ef 11<| .fin) (.fk 2 7 (.ef 7<|pS [9]<| .ef 11<| .fin) (.ef 2<|pS [9]<| .ef 11<| .fin)))))) fun _ p4=>?_
 refine qV 1<|qG 0 4<|qG 4 4<|qG 8 4<|qF4 ?_ ?_ ?_ ?_
 ·refine qO rfl<|sBK p4 #[I a0.w,I a0.h,I a0.max_, .slice a0.pix.a a0.pix.n a0.pix.k,I b0.w,I b0.h,I b0.max_, .slice b0.pix.a b0.pix.n b0.pix.k] 38 fun d0 _ q4=>nZ q4 [4]<|qF3 ?_ ?_ ?_
  ·refine qO rfl<|cS (r17_of a0 ⟨(t0.pix.fl 5)⟩ q4.flat) fun _ r7=>nA<|qF3 ?_ ?_ ?_
   ·refine qO rfl ?_
    have Y3:szP (⟨a0.w,a0.h,a0.max_⟩:Shape):=by have h:=(plane_sz c0.2.2.1).1;unfold sizeP at h;simp only [Plane.v] at h;unfold szP;dsimp only;omega
    have ew:=(r7.pick 2 rfl)
    refine cZ (tg_stage (ht.fl 5) om ew.flat1 0 (⟨a0.w,a0.h,a0.max_⟩:Shape) 1 ‹_› (by unfold numB;omega)) ?_
    rintro _ _ ⟨d1,v1,rfl,w1,x1,y1,z1,_,fw⟩
    have s7:=fw.unflat2
    refine nA<|qF3 ?_ ?_ ?_
    ·refine qO rfl<|sBK s7 (encStage d1).toArray 53 fun r4 _ sa=>nA<|qF ?_ ?_
     rotate_left
     ·exact qO rfl<|sAlloc sa zeroValue28 fun gw _ hw=>nA<|qO rfl<|sBK hw #[I 2] 3 fun ta _ iw=>nA<|qV 1<|qO rfl<|sTk iw 1 rfl [.slice (At d0 0) 2 2, .slice (At r4 0) 1 1, .slice (At ta 0) 1 1,I 0] fun _ jw=>nA<|qN<|jXI 0 rfl<|⟨(d1,v1,z1,d0,gw,r4,ta),alB,(jw.picks [2,4,5,4,5]),om,w1,x1,(by have h:=y1;omega)⟩
     exact qO rfl<|sBK sa #[I 2] 3 fun ua _ lw=>nA<|qV 1<|qO rfl<|sAlloc lw zeroValue28 fun mw _ nw=>nA<|qO rfl<|sTk nw 0 rfl [.slice (At d0 0) 2 2, .slice (At r4 0) 1 1, .slice (At ua 0) 1 1,I 0] fun _ ow=>nA<|qN<|jXI 0 rfl<|⟨(d1,v1,z1,d0,mw,r4,ua),alB,(ow.picks [2,4,5,3,5]),om,w1,x1,(by have h:=y1;omega)⟩
    ·refine qO rfl<|sBK s7 #[I 2] 3 fun s4 _ va=>nA<|qF ?_ ?_
     rotate_left
     ·exact qO rfl<|sAlloc va zeroValue28 fun qw _ sw=>nA<|qO rfl<|sBK sw (encStage d1).toArray 53 fun wa _ tw=>nA<|qV 1<|qO rfl<|sTk tw 1 rfl [.slice (At d0 0) 2 2, .slice (At wa 0) 1 1, .slice (At s4 0) 1 1,I 0] fun _ uw=>nA<|qN<|jXI 0 rfl<|⟨(d1,v1,z1,d0,qw,wa,s4),alB,(uw.picks [4,5,3,5]),om,w1,x1,(by have h:=y1;omega)⟩
     exact qO rfl<|sBK va (encStage d1).toArray 53 fun xa _ ww=>nA<|qV 1<|qO rfl<|sAlloc ww zeroValue28 fun xw _ yw=>nA<|qO rfl<|sTk yw 0 rfl [.slice (At d0 0) 2 2, .slice (At xa 0) 1 1, .slice (At s4 0) 1 1,I 0] fun _ zw=>nA<|qN<|jXI 0 rfl<|⟨(d1,v1,z1,d0,xw,xa,s4),alB,(zw.picks [4,5,2,5]),om,w1,x1,(by have h:=y1;omega)⟩
    refine qO rfl<|sAlloc s7 zeroValue28 fun ya _ za=>nA<|qF ?_ ?_
    rotate_left
    ·exact qO rfl<|sBK za #[I 2] 3 fun ab _ bx=>nA<|qO rfl<|sBK bx (encStage d1).toArray 53 fun bb _ cx=>nA<|qV 1<|qO rfl<|sTk cx 2 rfl [.slice (At d0 0) 2 2, .slice (At bb 0) 1 1, .slice (At ab 0) 1 1,I 0] fun _ dx=>nA<|qN<|jXI 0 rfl<|⟨(d1,v1,z1,d0,ya,bb,ab),alB,(dx.picks [4,5,4,5]),om,w1,x1,(by have h:=y1;omega)⟩
    exact qO rfl<|sBK za (encStage d1).toArray 53 fun cb _ fx=>nA<|qO rfl<|sBK fx #[I 2] 3 fun db _ gx=>nA<|qV 1<|qO rfl<|sTk gx 2 rfl [.slice (At d0 0) 2 2, .slice (At cb 0) 1 1, .slice (At db 0) 1 1,I 0] fun _ hx=>nA<|qN<|jXI 0 rfl<|⟨(d1,v1,z1,d0,ya,cb,db),alB,(hx.picks [1,4,5,4,5]),om,w1,x1,(by have h:=y1;omega)⟩
   ·refine qO rfl<|sBK r7 #[I 2] 3 fun a2 _ eb=>nA<|qF ?_ ?_
    rotate_left
    · exact qO rfl<|sAlloc eb zeroValue28 fun jx _ kx=>nA<|qO rfl<|(by have Z3:szP (⟨a0.w,a0.h,a0.max_⟩:Shape):=(by have h:=(plane_sz c0.2.2.1).1;unfold sizeP at h;simp only [Plane.v] at h;unfold szP;dsimp only;omega);have lx:=(kx.pick 4 rfl);refine cZ (tg_stage (ht.fl 7) om lx.flat1 0 (⟨a0.w,a0.h,a0.max_⟩:Shape) 1 ‹_› (by unfold numB;omega)) ?_;rintro _ _ ⟨gb,mx,rfl,nx,ox,px,qx,_,rx⟩;exact nA<|qO rfl<|sBK rx.unflat2 (encStage gb).toArray 53 fun ib _ tx=>nA<|qV 1<|qO rfl<|sTk tx 3 rfl [.slice (At d0 0) 2 2, .slice (At ib 0) 1 1, .slice (At a2 0) 1 1,I 0] fun _ ux=>nA<|qN<|jXI 0 rfl<|⟨(gb,mx,qx,d0,jx,ib,a2),alB,(ux.picks [2,5,4,4]),om,nx,ox,(by have h:=px;omega)⟩)
    refine qO rfl ?_
    have A4:szP (⟨a0.w,a0.h,a0.max_⟩:Shape):=by have h:=(plane_sz c0.2.2.1).1;unfold sizeP at h;simp only [Plane.v] at h;unfold szP;dsimp only;omega
    have wx:=(eb.pick 3 rfl)
    refine cZ (tg_stage (ht.fl 6) om wx.flat1 0 (⟨a0.w,a0.h,a0.max_⟩:Shape) 1 ‹_› (by unfold numB;omega)) ?_
    rintro _ _ ⟨t4,jb,rfl,kb,lb,mb,ob,_,xx⟩
    have pb:=xx.unflat2
    refine nA<|qF ?_ ?_
    rotate_left
    ·exact qO rfl<|sAlloc pb zeroValue28 fun yx _ zx=>nA<|qO rfl<|sBK zx (encStage t4).toArray 53 fun qb _ ay=>nA<|qV 1<|qO rfl<|sTk ay 1 rfl [.slice (At d0 0) 2 2, .slice (At qb 0) 1 1, .slice (At a2 0) 1 1,I 0] fun _ cy=>nA<|qN<|jXI 0 rfl<|⟨(t4,jb,ob,d0,yx,qb,a2),alB,(cy.picks [3,5,3,4]),om,kb,lb,(by have h:=mb;omega)⟩
    exact qO rfl<|sBK pb (encStage t4).toArray 53 fun rb _ ey=>nA<|qV 1<|qO rfl<|sAlloc ey zeroValue28 fun fy _ gy=>nA<|qO rfl<|sTk gy 0 rfl [.slice (At d0 0) 2 2, .slice (At rb 0) 1 1, .slice (At a2 0) 1 1,I 0] fun _ hy=>nA<|qN<|jXI 0 rfl<|⟨(t4,jb,ob,d0,fy,rb,a2),alB,(hy.picks [3,5,2,4]),om,kb,lb,(by have h:=mb;omega)⟩
   refine qO rfl<|sAlloc r7 zeroValue28 fun t7 _ sb=>nA<|qF ?_ ?_
   rotate_left
   · exact qO rfl<|sBK sb #[I 2] 3 fun tb _ jy=>nA<|qO rfl<|(by have B4:szP (⟨a0.w,a0.h,a0.max_⟩:Shape):=(by have h:=(plane_sz c0.2.2.1).1;unfold sizeP at h;simp only [Plane.v] at h;unfold szP;dsimp only;omega);have ky:=(jy.pick 4 rfl);refine cZ (tg_stage (ht.fl 7) om ky.flat1 0 (⟨a0.w,a0.h,a0.max_⟩:Shape) 1 ‹_› (by unfold numB;omega)) ?_;rintro _ _ ⟨ub,ly,rfl,my,ny,oy,py,_,qy⟩;exact nA<|qO rfl<|sBK qy.unflat2 (encStage ub).toArray 53 fun vb _ sy=>nA<|qV 1<|qO rfl<|sTk sy 4 rfl [.slice (At d0 0) 2 2, .slice (At vb 0) 1 1, .slice (At tb 0) 1 1,I 0] fun _ ty=>nA<|qN<|jXI 0 rfl<|⟨(ub,ly,py,d0,t7,vb,tb),alB,(ty.picks [2,5,5,4]),om,my,ny,(by have h:=oy;omega)⟩)
   refine qO rfl ?_
   have C4:szP (⟨a0.w,a0.h,a0.max_⟩:Shape):=by have h:=(plane_sz c0.2.2.1).1;unfold sizeP at h;simp only [Plane.v] at h;unfold szP;dsimp only;omega
   have vy:=(sb.pick 3 rfl)
   refine cZ (tg_stage (ht.fl 6) om vy.flat1 0 (⟨a0.w,a0.h,a0.max_⟩:Shape) 1 ‹_› (by unfold numB;omega)) ?_
   rintro _ _ ⟨u4,wb,rfl,xb,yb,zb,ac,_,wy⟩
   have bc:=wy.unflat2
   refine nA<|qF ?_ ?_
   rotate_left
   ·exact qO rfl<|sBK bc #[I 2] 3 fun cc _ xy=>nA<|qO rfl<|sBK xy (encStage u4).toArray 53 fun dc _ yy=>nA<|qV 1<|qO rfl<|sTk yy 4 rfl [.slice (At d0 0) 2 2, .slice (At dc 0) 1 1, .slice (At cc 0) 1 1,I 0] fun _ zy=>nA<|qN<|jXI 0 rfl<|⟨(u4,wb,ac,d0,t7,dc,cc),alB,(zy.picks [3,5,5,5]),om,xb,yb,(by have h:=zb;omega)⟩
   exact qO rfl<|sBK bc (encStage u4).toArray 53 fun ec _ bz=>nA<|qO rfl<|sBK bz #[I 2] 3 fun fc _ cz=>nA<|qV 1<|qO rfl<|sTk cz 4 rfl [.slice (At d0 0) 2 2, .slice (At ec 0) 1 1, .slice (At fc 0) 1 1,I 0] fun _ dz=>nA<|qN<|jXI 0 rfl<|⟨(u4,wb,ac,d0,t7,ec,fc),alB,(dz.picks [1,3,5,5,5]),om,xb,yb,(by have h:=zb;omega)⟩
  ·refine qO rfl<|sBK q4 #[I 2] 3 fun k1 _ u7=>nZ u7 [5]<|qF ?_ ?_
   rotate_left
   · exact qO rfl<|sAlloc u7 zeroValue28 fun fz _ gc=>nZ gc [6]<|qO rfl<|cS (r17_of a0 ⟨(t0.pix.fl 7)⟩ gc.flat) fun _ gz=>nA<|qO rfl<|(by have D4:szP (⟨a0.w,a0.h,a0.max_⟩:Shape):=(by have h:=(plane_sz c0.2.2.1).1;unfold sizeP at h;simp only [Plane.v] at h;unfold szP;dsimp only;omega);have iz:=(gz.pick 4 rfl);refine cZ (tg_stage (ht.fl 7) om iz.flat1 0 (⟨a0.w,a0.h,a0.max_⟩:Shape) 1 ‹_› (by unfold numB;omega)) ?_;rintro _ _ ⟨hc,jz,rfl,kz,lz,mz,nz,_,oz⟩;exact nA<|qO rfl<|sBK oz.unflat2 (encStage hc).toArray 53 fun ic _ qz=>nA<|qV 1<|qO rfl<|sTk qz 3 rfl [.slice (At d0 0) 2 2, .slice (At ic 0) 1 1, .slice (At k1 0) 1 1,I 0] fun _ rz=>nA<|qN<|jXI 0 rfl<|⟨(hc,jz,nz,d0,fz,ic,k1),alB,(rz.picks [2,5,4,4]),om,kz,lz,(by have h:=mz;omega)⟩)
   refine qO rfl<|cS (r17_of a0 ⟨(t0.pix.fl 6)⟩ u7.flat) fun _ jc=>nA<|qF ?_ ?_
   rotate_left
   · exact qO rfl<|sAlloc jc zeroValue28 fun uz _ vz=>nA<|qO rfl<|(by have E4:szP (⟨a0.w,a0.h,a0.max_⟩:Shape):=(by have h:=(plane_sz c0.2.2.1).1;unfold sizeP at h;simp only [Plane.v] at h;unfold szP;dsimp only;omega);have wz:=(vz.pick 4 rfl);refine cZ (tg_stage (ht.fl 7) om wz.flat1 0 (⟨a0.w,a0.h,a0.max_⟩:Shape) 1 ‹_› (by unfold numB;omega)) ?_;rintro _ _ ⟨kc,xz,rfl,yz,zz,aA,bA,_,cA⟩;exact nA<|qO rfl<|sBK cA.unflat2 (encStage kc).toArray 53 fun lc _ fA=>nA<|qV 1<|qO rfl<|sTk fA 3 rfl [.slice (At d0 0) 2 2, .slice (At lc 0) 1 1, .slice (At k1 0) 1 1,I 0] fun _ gA=>nA<|qN<|jXI 0 rfl<|⟨(kc,xz,bA,d0,uz,lc,k1),alB,(gA.picks [2,5,4,4]),om,yz,zz,(by have h:=aA;omega)⟩)
   refine qO rfl ?_
   have F4:szP (⟨a0.w,a0.h,a0.max_⟩:Shape):=by have h:=(plane_sz c0.2.2.1).1;unfold sizeP at h;simp only [Plane.v] at h;unfold szP;dsimp only;omega
   have iA:=(jc.pick 3 rfl)
   refine cZ (tg_stage (ht.fl 6) om iA.flat1 0 (⟨a0.w,a0.h,a0.max_⟩:Shape) 1 ‹_› (by unfold numB;omega)) ?_
   rintro _ _ ⟨v4,mc,rfl,nc,oc,pc,qc,_,jA⟩
   have rc:=jA.unflat2
   refine nA<|qF ?_ ?_
   rotate_left
   ·exact qO rfl<|sAlloc rc zeroValue28 fun kA _ mA=>nA<|qO rfl<|sBK mA (encStage v4).toArray 53 fun sc _ oA=>nA<|qV 1<|qO rfl<|sTk oA 1 rfl [.slice (At d0 0) 2 2, .slice (At sc 0) 1 1, .slice (At k1 0) 1 1,I 0] fun _ pA=>nA<|qN<|jXI 0 rfl<|⟨(v4,mc,qc,d0,kA,sc,k1),alB,(pA.picks [3,5,3,4]),om,nc,oc,(by have h:=pc;omega)⟩
   exact qO rfl<|sBK rc (encStage v4).toArray 53 fun tc _ rA=>nA<|qV 1<|qO rfl<|sAlloc rA zeroValue28 fun tA _ uA=>nA<|qO rfl<|sTk uA 0 rfl [.slice (At d0 0) 2 2, .slice (At tc 0) 1 1, .slice (At k1 0) 1 1,I 0] fun _ vA=>nA<|qN<|jXI 0 rfl<|⟨(v4,mc,qc,d0,tA,tc,k1),alB,(vA.picks [3,5,2,4]),om,nc,oc,(by have h:=pc;omega)⟩
  refine qO rfl<|sAlloc q4 zeroValue28 fun w4 _ v7=>nZ v7 [5]<|qF ?_ ?_
  rotate_left
  · exact qO rfl<|sBK v7 #[I 2] 3 fun uc _ vc=>nZ vc [6]<|qO rfl<|cS (r17_of a0 ⟨(t0.pix.fl 7)⟩ vc.flat) fun _ xA=>nA<|qO rfl<|(by have G4:szP (⟨a0.w,a0.h,a0.max_⟩:Shape):=(by have h:=(plane_sz c0.2.2.1).1;unfold sizeP at h;simp only [Plane.v] at h;unfold szP;dsimp only;omega);have yA:=(xA.pick 4 rfl);refine cZ (tg_stage (ht.fl 7) om yA.flat1 0 (⟨a0.w,a0.h,a0.max_⟩:Shape) 1 ‹_› (by unfold numB;omega)) ?_;rintro _ _ ⟨wc,zA,rfl,aB,bB,dB,eB,_,gB⟩;exact nA<|qO rfl<|sBK gB.unflat2 (encStage wc).toArray 53 fun xc _ iB=>nA<|qV 1<|qO rfl<|sTk iB 4 rfl [.slice (At d0 0) 2 2, .slice (At xc 0) 1 1, .slice (At uc 0) 1 1,I 0] fun _ jB=>nA<|qN<|jXI 0 rfl<|⟨(wc,zA,eB,d0,w4,xc,uc),alB,(jB.picks [2,5,5,4]),om,aB,bB,(by have h:=dB;omega)⟩)
  refine qO rfl<|cS (r17_of a0 ⟨(t0.pix.fl 6)⟩ v7.flat) fun _ yc=>nA<|qF ?_ ?_
  rotate_left
  · exact qO rfl<|sBK yc #[I 2] 3 fun zc _ mB=>nA<|qO rfl<|(by have H4:szP (⟨a0.w,a0.h,a0.max_⟩:Shape):=(by have h:=(plane_sz c0.2.2.1).1;unfold sizeP at h;simp only [Plane.v] at h;unfold szP;dsimp only;omega);have oB:=(mB.pick 4 rfl);refine cZ (tg_stage (ht.fl 7) om oB.flat1 0 (⟨a0.w,a0.h,a0.max_⟩:Shape) 1 ‹_› (by unfold numB;omega)) ?_;rintro _ _ ⟨ad,pB,rfl,qB,tB,uB,vB,_,wB⟩;exact nA<|qO rfl<|sBK wB.unflat2 (encStage ad).toArray 53 fun bd _ aC=>nA<|qV 1<|qO rfl<|sTk aC 4 rfl [.slice (At d0 0) 2 2, .slice (At bd 0) 1 1, .slice (At zc 0) 1 1,I 0] fun _ cC=>nA<|qN<|jXI 0 rfl<|⟨(ad,pB,vB,d0,w4,bd,zc),alB,(cC.picks [2,5,5,4]),om,qB,tB,(by have h:=uB;omega)⟩)
  refine qO rfl ?_
  have I4:szP (⟨a0.w,a0.h,a0.max_⟩:Shape):=by have h:=(plane_sz c0.2.2.1).1;unfold sizeP at h;simp only [Plane.v] at h;unfold szP;dsimp only;omega
  have eC:=(yc.pick 3 rfl)
  refine cZ (tg_stage (ht.fl 6) om eC.flat1 0 (⟨a0.w,a0.h,a0.max_⟩:Shape) 1 ‹_› (by unfold numB;omega)) ?_
  rintro _ _ ⟨x4,cd,rfl,dd,ed,fd,gd,_,fC⟩
  have hd:=fC.unflat2
  refine nA<|qF ?_ ?_
  rotate_left
  ·exact qO rfl<|sBK hd #[I 2] 3 fun jd _ gC=>nA<|qO rfl<|sBK gC (encStage x4).toArray 53 fun kd _ hC=>nA<|qV 1<|qO rfl<|sTk hC 4 rfl [.slice (At d0 0) 2 2, .slice (At kd 0) 1 1, .slice (At jd 0) 1 1,I 0] fun _ iC=>nA<|qN<|jXI 0 rfl<|⟨(x4,cd,gd,d0,w4,kd,jd),alB,(iC.picks [3,5,5,5]),om,dd,ed,(by have h:=fd;omega)⟩
  exact qO rfl<|sBK hd (encStage x4).toArray 53 fun ld _ kC=>nA<|qO rfl<|sBK kC #[I 2] 3 fun md _ lC=>nA<|qV 1<|qO rfl<|sTk lC 4 rfl [.slice (At d0 0) 2 2, .slice (At ld 0) 1 1, .slice (At md 0) 1 1,I 0] fun _ mC=>nA<|qN<|jXI 0 rfl<|⟨(x4,cd,gd,d0,w4,ld,md),alB,(mC.picks [1,3,5,5,5]),om,dd,ed,(by have h:=fd;omega)⟩
 ·refine qO rfl<|cS (r17_of a0 ⟨(t0.pix.fl 4)⟩ p4.flat) fun _ z3=>nZ z3 [3,0]<|qF4 ?_ ?_ ?_ ?_
  ·refine qO rfl<|sBK z3 #[I a0.w,I a0.h,I a0.max_, .slice a0.pix.a a0.pix.n a0.pix.k,I b0.w,I b0.h,I b0.max_, .slice b0.pix.a b0.pix.n b0.pix.k] 38 fun h0 _ w7=>nA<|qF3 ?_ ?_ ?_
   ·refine qO rfl ?_
    have J4:szP (⟨a0.w,a0.h,a0.max_⟩:Shape):=by have h:=(plane_sz c0.2.2.1).1;unfold sizeP at h;simp only [Plane.v] at h;unfold szP;dsimp only;omega
    have oC:=(w7.pick 2 rfl)
    refine cZ (tg_stage (ht.fl 5) om oC.flat1 0 (⟨a0.w,a0.h,a0.max_⟩:Shape) 1 ‹_› (by unfold numB;omega)) ?_
    rintro _ _ ⟨e1,c2,rfl,d2,e2,f2,g2,_,pC⟩
    have x7:=pC.unflat2
    refine nA<|qF3 ?_ ?_ ?_
    ·refine qO rfl<|sBK x7 (encStage e1).toArray 53 fun y4 _ nd=>nA<|qF ?_ ?_
     rotate_left
     ·exact qO rfl<|sAlloc nd zeroValue28 fun qC _ rC=>nA<|qO rfl<|sBK rC #[I 2] 3 fun pd _ tC=>nA<|qV 1<|qO rfl<|sTk tC 1 rfl [.slice (At h0 0) 2 2, .slice (At y4 0) 1 1, .slice (At pd 0) 1 1,I 0] fun _ uC=>nA<|qN<|jXI 0 rfl<|⟨(e1,c2,g2,h0,qC,y4,pd),alB,(uC.picks [2,4,5,4,5]),om,d2,e2,(by have h:=f2;omega)⟩
     exact qO rfl<|sBK nd #[I 2] 3 fun qd _ wC=>nA<|qV 1<|qO rfl<|sAlloc wC zeroValue28 fun xC _ yC=>nA<|qO rfl<|sTk yC 0 rfl [.slice (At h0 0) 2 2, .slice (At y4 0) 1 1, .slice (At qd 0) 1 1,I 0] fun _ aD=>nA<|qN<|jXI 0 rfl<|⟨(e1,c2,g2,h0,xC,y4,qd),alB,(aD.picks [2,4,5,3,5]),om,d2,e2,(by have h:=f2;omega)⟩
    ·refine qO rfl<|sBK x7 #[I 2] 3 fun z4 _ rd=>nA<|qF ?_ ?_
     rotate_left
     ·exact qO rfl<|sAlloc rd zeroValue28 fun eD _ fD=>nA<|qO rfl<|sBK fD (encStage e1).toArray 53 fun sd _ gD=>nA<|qV 1<|qO rfl<|sTk gD 1 rfl [.slice (At h0 0) 2 2, .slice (At sd 0) 1 1, .slice (At z4 0) 1 1,I 0] fun _ hD=>nA<|qN<|jXI 0 rfl<|⟨(e1,c2,g2,h0,eD,sd,z4),alB,(hD.picks [4,5,3,5]),om,d2,e2,(by have h:=f2;omega)⟩
     exact qO rfl<|sBK rd (encStage e1).toArray 53 fun td _ jD=>nA<|qV 1<|qO rfl<|sAlloc jD zeroValue28 fun kD _ lD=>nA<|qO rfl<|sTk lD 0 rfl [.slice (At h0 0) 2 2, .slice (At td 0) 1 1, .slice (At z4 0) 1 1,I 0] fun _ mD=>nA<|qN<|jXI 0 rfl<|⟨(e1,c2,g2,h0,kD,td,z4),alB,(mD.picks [4,5,2,5]),om,d2,e2,(by have h:=f2;omega)⟩
    refine qO rfl<|sAlloc x7 zeroValue28 fun ud _ vd=>nA<|qF ?_ ?_
    rotate_left
    ·exact qO rfl<|sBK vd #[I 2] 3 fun wd _ oD=>nA<|qO rfl<|sBK oD (encStage e1).toArray 53 fun xd _ pD=>nA<|qV 1<|qO rfl<|sTk pD 2 rfl [.slice (At h0 0) 2 2, .slice (At xd 0) 1 1, .slice (At wd 0) 1 1,I 0] fun _ qD=>nA<|qN<|jXI 0 rfl<|⟨(e1,c2,g2,h0,ud,xd,wd),alB,(qD.picks [4,5,4,5]),om,d2,e2,(by have h:=f2;omega)⟩
    exact qO rfl<|sBK vd (encStage e1).toArray 53 fun yd _ tD=>nA<|qO rfl<|sBK tD #[I 2] 3 fun zd _ uD=>nA<|qV 1<|qO rfl<|sTk uD 2 rfl [.slice (At h0 0) 2 2, .slice (At yd 0) 1 1, .slice (At zd 0) 1 1,I 0] fun _ vD=>nA<|qN<|jXI 0 rfl<|⟨(e1,c2,g2,h0,ud,yd,zd),alB,(vD.picks [1,4,5,4,5]),om,d2,e2,(by have h:=f2;omega)⟩
   ·refine qO rfl<|sBK w7 #[I 2] 3 fun i2 _ ae=>nA<|qF ?_ ?_
    rotate_left
    · exact qO rfl<|sAlloc ae zeroValue28 fun xD _ yD=>nA<|qO rfl<|(by have K4:szP (⟨a0.w,a0.h,a0.max_⟩:Shape):=(by have h:=(plane_sz c0.2.2.1).1;unfold sizeP at h;simp only [Plane.v] at h;unfold szP;dsimp only;omega);have zD:=(yD.pick 4 rfl);refine cZ (tg_stage (ht.fl 7) om zD.flat1 0 (⟨a0.w,a0.h,a0.max_⟩:Shape) 1 ‹_› (by unfold numB;omega)) ?_;rintro _ _ ⟨be,aE,rfl,bE,dE,eE,fE,_,gE⟩;exact nA<|qO rfl<|sBK gE.unflat2 (encStage be).toArray 53 fun ce _ iE=>nA<|qV 1<|qO rfl<|sTk iE 3 rfl [.slice (At h0 0) 2 2, .slice (At ce 0) 1 1, .slice (At i2 0) 1 1,I 0] fun _ jE=>nA<|qN<|jXI 0 rfl<|⟨(be,aE,fE,h0,xD,ce,i2),alB,(jE.picks [2,5,4,4]),om,bE,dE,(by have h:=eE;omega)⟩)
    refine qO rfl ?_
    have L4:szP (⟨a0.w,a0.h,a0.max_⟩:Shape):=by have h:=(plane_sz c0.2.2.1).1;unfold sizeP at h;simp only [Plane.v] at h;unfold szP;dsimp only;omega
    have lE:=(ae.pick 3 rfl)
    refine cZ (tg_stage (ht.fl 6) om lE.flat1 0 (⟨a0.w,a0.h,a0.max_⟩:Shape) 1 ‹_› (by unfold numB;omega)) ?_
    rintro _ _ ⟨a5,de,rfl,ee,fe,ge,he,_,mE⟩
    have ie:=mE.unflat2
    refine nA<|qF ?_ ?_
    rotate_left
    ·exact qO rfl<|sAlloc ie zeroValue28 fun nE _ oE=>nA<|qO rfl<|sBK oE (encStage a5).toArray 53 fun je _ pE=>nA<|qV 1<|qO rfl<|sTk pE 1 rfl [.slice (At h0 0) 2 2, .slice (At je 0) 1 1, .slice (At i2 0) 1 1,I 0] fun _ qE=>nA<|qN<|jXI 0 rfl<|⟨(a5,de,he,h0,nE,je,i2),alB,(qE.picks [3,5,3,4]),om,ee,fe,(by have h:=ge;omega)⟩
    exact qO rfl<|sBK ie (encStage a5).toArray 53 fun ke _ uE=>nA<|qV 1<|qO rfl<|sAlloc uE zeroValue28 fun vE _ wE=>nA<|qO rfl<|sTk wE 0 rfl [.slice (At h0 0) 2 2, .slice (At ke 0) 1 1, .slice (At i2 0) 1 1,I 0] fun _ xE=>nA<|qN<|jXI 0 rfl<|⟨(a5,de,he,h0,vE,ke,i2),alB,(xE.picks [3,5,2,4]),om,ee,fe,(by have h:=ge;omega)⟩
   refine qO rfl<|sAlloc w7 zeroValue28 fun y7 _ me=>nA<|qF ?_ ?_
   rotate_left
   · exact qO rfl<|sBK me #[I 2] 3 fun ne _ aF=>nA<|qO rfl<|(by have M4:szP (⟨a0.w,a0.h,a0.max_⟩:Shape):=(by have h:=(plane_sz c0.2.2.1).1;unfold sizeP at h;simp only [Plane.v] at h;unfold szP;dsimp only;omega);have bF:=(aF.pick 4 rfl);refine cZ (tg_stage (ht.fl 7) om bF.flat1 0 (⟨a0.w,a0.h,a0.max_⟩:Shape) 1 ‹_› (by unfold numB;omega)) ?_;rintro _ _ ⟨oe,dF,rfl,eF,fF,gF,hF,_,iF⟩;exact nA<|qO rfl<|sBK iF.unflat2 (encStage oe).toArray 53 fun pe _ kF=>nA<|qV 1<|qO rfl<|sTk kF 4 rfl [.slice (At h0 0) 2 2, .slice (At pe 0) 1 1, .slice (At ne 0) 1 1,I 0] fun _ lF=>nA<|qN<|jXI 0 rfl<|⟨(oe,dF,hF,h0,y7,pe,ne),alB,(lF.picks [2,5,5,4]),om,eF,fF,(by have h:=gF;omega)⟩)
   refine qO rfl ?_
   have N4:szP (⟨a0.w,a0.h,a0.max_⟩:Shape):=by have h:=(plane_sz c0.2.2.1).1;unfold sizeP at h;simp only [Plane.v] at h;unfold szP;dsimp only;omega
   have oF:=(me.pick 3 rfl)
   refine cZ (tg_stage (ht.fl 6) om oF.flat1 0 (⟨a0.w,a0.h,a0.max_⟩:Shape) 1 ‹_› (by unfold numB;omega)) ?_
   rintro _ _ ⟨b5,qe,rfl,re,se,te,ue,_,pF⟩
   have ve:=pF.unflat2
   refine nA<|qF ?_ ?_
   rotate_left
   ·exact qO rfl<|sBK ve #[I 2] 3 fun we _ rF=>nA<|qO rfl<|sBK rF (encStage b5).toArray 53 fun xe _ tF=>nA<|qV 1<|qO rfl<|sTk tF 4 rfl [.slice (At h0 0) 2 2, .slice (At xe 0) 1 1, .slice (At we 0) 1 1,I 0] fun _ uF=>nA<|qN<|jXI 0 rfl<|⟨(b5,qe,ue,h0,y7,xe,we),alB,(uF.picks [3,5,5,5]),om,re,se,(by have h:=te;omega)⟩
   exact qO rfl<|sBK ve (encStage b5).toArray 53 fun ye _ wF=>nA<|qO rfl<|sBK wF #[I 2] 3 fun ze _ xF=>nA<|qV 1<|qO rfl<|sTk xF 4 rfl [.slice (At h0 0) 2 2, .slice (At ye 0) 1 1, .slice (At ze 0) 1 1,I 0] fun _ yF=>nA<|qN<|jXI 0 rfl<|⟨(b5,qe,ue,h0,y7,ye,ze),alB,(yF.picks [1,3,5,5,5]),om,re,se,(by have h:=te;omega)⟩
  ·refine qO rfl ?_
   have O4:szP (⟨a0.w,a0.h,a0.max_⟩:Shape):=by have h:=(plane_sz c0.2.2.1).1;unfold sizeP at h;simp only [Plane.v] at h;unfold szP;dsimp only;omega
   have aG:=(z3.pick 1 rfl)
   refine cZ (tg_stage (ht.fl 4) om aG.flat1 0 (⟨a0.w,a0.h,a0.max_⟩:Shape) 1 ‹_› (by unfold numB;omega)) ?_
   rintro _ _ ⟨e0,i0,rfl,j0,k0,l0,m0,_,bG⟩
   have a4:=bG.unflat2
   refine nZ a4 [4,2]<|qF4 ?_ ?_ ?_ ?_
   ·refine qO rfl<|sBK a4 #[I a0.w,I a0.h,I a0.max_, .slice a0.pix.a a0.pix.n a0.pix.k,I b0.w,I b0.h,I b0.max_, .slice b0.pix.a b0.pix.n b0.pix.k] 38 fun x0 _ z7=>nA<|qF3 ?_ ?_ ?_
    ·refine qO rfl<|sBK z7 (encStage e0).toArray 53 fun c5 _ af=>nA<|qF ?_ ?_
     rotate_left
     ·exact qO rfl<|sAlloc af zeroValue28 fun cG _ dG=>nA<|qO rfl<|sBK dG #[I 2] 3 fun bf _ eG=>nA<|qV 1<|qO rfl<|sTk eG 1 rfl [.slice (At x0 0) 2 2, .slice (At c5 0) 1 1, .slice (At bf 0) 1 1,I 0] fun _ fG=>nA<|qN<|jXI 0 rfl<|⟨(e0,i0,m0,x0,cG,c5,bf),alB,(fG.picks [2,5,4,4,5]),om,j0,k0,(by have h:=l0;omega)⟩
     exact qO rfl<|sBK af #[I 2] 3 fun cf _ hG=>nA<|qV 1<|qO rfl<|sAlloc hG zeroValue28 fun iG _ jG=>nA<|qO rfl<|sTk jG 0 rfl [.slice (At x0 0) 2 2, .slice (At c5 0) 1 1, .slice (At cf 0) 1 1,I 0] fun _ kG=>nA<|qN<|jXI 0 rfl<|⟨(e0,i0,m0,x0,iG,c5,cf),alB,(kG.picks [2,5,4,3,5]),om,j0,k0,(by have h:=l0;omega)⟩
    ·refine qO rfl<|sBK z7 #[I 2] 3 fun d5 _ df=>nA<|qF ?_ ?_
     rotate_left
     ·exact qO rfl<|sAlloc df zeroValue28 fun mG _ nG=>nA<|qO rfl<|sBK nG (encStage e0).toArray 53 fun ff _ oG=>nA<|qV 1<|qO rfl<|sTk oG 1 rfl [.slice (At x0 0) 2 2, .slice (At ff 0) 1 1, .slice (At d5 0) 1 1,I 0] fun _ pG=>nA<|qN<|jXI 0 rfl<|⟨(e0,i0,m0,x0,mG,ff,d5),alB,(pG.picks [5,4,3,5]),om,j0,k0,(by have h:=l0;omega)⟩
     exact qO rfl<|sBK df (encStage e0).toArray 53 fun gf _ sG=>nA<|qV 1<|qO rfl<|sAlloc sG zeroValue28 fun tG _ uG=>nA<|qO rfl<|sTk uG 0 rfl [.slice (At x0 0) 2 2, .slice (At gf 0) 1 1, .slice (At d5 0) 1 1,I 0] fun _ vG=>nA<|qN<|jXI 0 rfl<|⟨(e0,i0,m0,x0,tG,gf,d5),alB,(vG.picks [5,4,2,5]),om,j0,k0,(by have h:=l0;omega)⟩
    refine qO rfl<|sAlloc z7 zeroValue28 fun hf _ jf=>nA<|qF ?_ ?_
    rotate_left
    ·exact qO rfl<|sBK jf #[I 2] 3 fun kf _ yG=>nA<|qO rfl<|sBK yG (encStage e0).toArray 53 fun lf _ zG=>nA<|qV 1<|qO rfl<|sTk zG 2 rfl [.slice (At x0 0) 2 2, .slice (At lf 0) 1 1, .slice (At kf 0) 1 1,I 0] fun _ aH=>nA<|qN<|jXI 0 rfl<|⟨(e0,i0,m0,x0,hf,lf,kf),alB,(aH.picks [5,4,4,5]),om,j0,k0,(by have h:=l0;omega)⟩
    exact qO rfl<|sBK jf (encStage e0).toArray 53 fun mf _ cH=>nA<|qO rfl<|sBK cH #[I 2] 3 fun nf _ dH=>nA<|qV 1<|qO rfl<|sTk dH 2 rfl [.slice (At x0 0) 2 2, .slice (At mf 0) 1 1, .slice (At nf 0) 1 1,I 0] fun _ eH=>nA<|qN<|jXI 0 rfl<|⟨(e0,i0,m0,x0,hf,mf,nf),alB,(eH.picks [1,5,4,4,5]),om,j0,k0,(by have h:=l0;omega)⟩
   ·refine qO rfl<|sBK a4 (encStage e0).toArray 53 fun y0 _ e5=>nZ e5 [5,3]<|qF3 ?_ ?_ ?_
    ·refine qO rfl<|sBK e5 #[I a0.w,I a0.h,I a0.max_, .slice a0.pix.a a0.pix.n a0.pix.k,I b0.w,I b0.h,I b0.max_, .slice b0.pix.a b0.pix.n b0.pix.k] 38 fun f5 _ pf=>nA<|qF ?_ ?_
     rotate_left
     ·exact qO rfl<|sAlloc pf zeroValue28 fun gH _ hH=>nA<|qO rfl<|sBK hH #[I 2] 3 fun qf _ iH=>nA<|qV 1<|qO rfl<|sTk iH 1 rfl [.slice (At f5 0) 2 2, .slice (At y0 0) 1 1, .slice (At qf 0) 1 1,I 0] fun _ jH=>nA<|qN<|jXI 0 rfl<|⟨(e0,i0,m0,f5,gH,y0,qf),alB,(jH.picks [3,5,4,4,5]),om,j0,k0,(by have h:=l0;omega)⟩
     exact qO rfl<|sBK pf #[I 2] 3 fun rf _ lH=>nA<|qV 1<|qO rfl<|sAlloc lH zeroValue28 fun mH _ nH=>nA<|qO rfl<|sTk nH 0 rfl [.slice (At f5 0) 2 2, .slice (At y0 0) 1 1, .slice (At rf 0) 1 1,I 0] fun _ oH=>nA<|qN<|jXI 0 rfl<|⟨(e0,i0,m0,f5,mH,y0,rf),alB,(oH.picks [3,5,4,3,5]),om,j0,k0,(by have h:=l0;omega)⟩
    ·refine qO rfl<|sBK e5 #[I 2] 3 fun g5 _ a8=>nZ a8 [6,4]<|qF ?_ ?_
     ·exact qO rfl<|sBK a8 #[I a0.w,I a0.h,I a0.max_, .slice a0.pix.a a0.pix.n a0.pix.k,I b0.w,I b0.h,I b0.max_, .slice b0.pix.a b0.pix.n b0.pix.k] 38 fun sf _ qH=>nA<|qV 1<|qO rfl<|sAlloc qH zeroValue28 fun rH _ sH=>nA<|qO rfl<|sTk sH 0 rfl [.slice (At sf 0) 2 2, .slice (At y0 0) 1 1, .slice (At g5 0) 1 1,I 0] fun _ tH=>nA<|qN<|jXI 0 rfl<|⟨(e0,i0,m0,sf,rH,y0,g5),alB,(tH.picks [3,5,3,3,5]),om,j0,k0,(by have h:=l0;omega)⟩
     exact qO rfl<|sAlloc a8 zeroValue28 fun vH _ tf=>nZ tf [7,5]<|qO rfl<|sBK tf #[I a0.w,I a0.h,I a0.max_, .slice a0.pix.a a0.pix.n a0.pix.k,I b0.w,I b0.h,I b0.max_, .slice b0.pix.a b0.pix.n b0.pix.k] 38 fun uf _ wH=>nA<|qV 1<|qO rfl<|sTk wH 1 rfl [.slice (At uf 0) 2 2, .slice (At y0 0) 1 1, .slice (At g5 0) 1 1,I 0] fun _ xH=>nA<|qN<|jXI 0 rfl<|⟨(e0,i0,m0,uf,vH,y0,g5),alB,(xH.picks [3,5,2,3,5]),om,j0,k0,(by have h:=l0;omega)⟩
    refine qO rfl<|sAlloc e5 zeroValue28 fun vf _ c8=>nZ c8 [6,4]<|qF ?_ ?_
    ·exact qO rfl<|sBK c8 #[I a0.w,I a0.h,I a0.max_, .slice a0.pix.a a0.pix.n a0.pix.k,I b0.w,I b0.h,I b0.max_, .slice b0.pix.a b0.pix.n b0.pix.k] 38 fun wf _ zH=>nA<|qO rfl<|sBK zH #[I 2] 3 fun xf _ aI=>nA<|qV 1<|qO rfl<|sTk aI 2 rfl [.slice (At wf 0) 2 2, .slice (At y0 0) 1 1, .slice (At xf 0) 1 1,I 0] fun _ bI=>nA<|qN<|jXI 0 rfl<|⟨(e0,i0,m0,wf,vf,y0,xf),alB,(bI.picks [3,5,3,4,5]),om,j0,k0,(by have h:=l0;omega)⟩
    exact qO rfl<|sBK c8 #[I 2] 3 fun yf _ zf=>nZ zf [7,5]<|qO rfl<|sBK zf #[I a0.w,I a0.h,I a0.max_, .slice a0.pix.a a0.pix.n a0.pix.k,I b0.w,I b0.h,I b0.max_, .slice b0.pix.a b0.pix.n b0.pix.k] 38 fun ag _ fI=>nA<|qV 1<|qO rfl<|sTk fI 2 rfl [.slice (At ag 0) 2 2, .slice (At y0 0) 1 1, .slice (At yf 0) 1 1,I 0] fun _ gI=>nA<|qN<|jXI 0 rfl<|⟨(e0,i0,m0,ag,vf,y0,yf),alB,(gI.picks [3,5,2,4,5]),om,j0,k0,(by have h:=l0;omega)⟩
   ·refine qO rfl<|sBK a4 #[I 2] 3 fun z0 _ h5=>nZ h5 [5,3]<|qF3 ?_ ?_ ?_
    ·refine qO rfl<|sBK h5 #[I a0.w,I a0.h,I a0.max_, .slice a0.pix.a a0.pix.n a0.pix.k,I b0.w,I b0.h,I b0.max_, .slice b0.pix.a b0.pix.n b0.pix.k] 38 fun i5 _ bg=>nA<|qF ?_ ?_
     rotate_left
     ·exact qO rfl<|sAlloc bg zeroValue28 fun iI _ jI=>nA<|qO rfl<|sBK jI (encStage e0).toArray 53 fun cg _ kI=>nA<|qV 1<|qO rfl<|sTk kI 1 rfl [.slice (At i5 0) 2 2, .slice (At cg 0) 1 1, .slice (At z0 0) 1 1,I 0] fun _ lI=>nA<|qN<|jXI 0 rfl<|⟨(e0,i0,m0,i5,iI,cg,z0),alB,(lI.picks [5,3,3,5]),om,j0,k0,(by have h:=l0;omega)⟩
     exact qO rfl<|sBK bg (encStage e0).toArray 53 fun dg _ nI=>nA<|qV 1<|qO rfl<|sAlloc nI zeroValue28 fun oI _ pI=>nA<|qO rfl<|sTk pI 0 rfl [.slice (At i5 0) 2 2, .slice (At dg 0) 1 1, .slice (At z0 0) 1 1,I 0] fun _ rI=>nA<|qN<|jXI 0 rfl<|⟨(e0,i0,m0,i5,oI,dg,z0),alB,(rI.picks [5,3,2,5]),om,j0,k0,(by have h:=l0;omega)⟩
    ·refine qO rfl<|sBK h5 (encStage e0).toArray 53 fun j5 _ d8=>nZ d8 [6,4]<|qF ?_ ?_
     ·exact qO rfl<|sBK d8 #[I a0.w,I a0.h,I a0.max_, .slice a0.pix.a a0.pix.n a0.pix.k,I b0.w,I b0.h,I b0.max_, .slice b0.pix.a b0.pix.n b0.pix.k] 38 fun eg _ tI=>nA<|qV 1<|qO rfl<|sAlloc tI zeroValue28 fun uI _ vI=>nA<|qO rfl<|sTk vI 0 rfl [.slice (At eg 0) 2 2, .slice (At j5 0) 1 1, .slice (At z0 0) 1 1,I 0] fun _ xI=>nA<|qN<|jXI 0 rfl<|⟨(e0,i0,m0,eg,uI,j5,z0),alB,(xI.picks [5,2,2,5]),om,j0,k0,(by have h:=l0;omega)⟩
     exact qO rfl<|sAlloc d8 zeroValue28 fun zI _ fg=>nZ fg [7,5]<|qO rfl<|sBK fg #[I a0.w,I a0.h,I a0.max_, .slice a0.pix.a a0.pix.n a0.pix.k,I b0.w,I b0.h,I b0.max_, .slice b0.pix.a b0.pix.n b0.pix.k] 38 fun gg _ aJ=>nA<|qV 1<|qO rfl<|sTk aJ 1 rfl [.slice (At gg 0) 2 2, .slice (At j5 0) 1 1, .slice (At z0 0) 1 1,I 0] fun _ bJ=>nA<|qN<|jXI 0 rfl<|⟨(e0,i0,m0,gg,zI,j5,z0),alB,(bJ.picks [5,1,2,5]),om,j0,k0,(by have h:=l0;omega)⟩
    refine qO rfl<|sAlloc h5 zeroValue28 fun hg _ e8=>nZ e8 [6,4]<|qF ?_ ?_
    ·exact qO rfl<|sBK e8 #[I a0.w,I a0.h,I a0.max_, .slice a0.pix.a a0.pix.n a0.pix.k,I b0.w,I b0.h,I b0.max_, .slice b0.pix.a b0.pix.n b0.pix.k] 38 fun ig _ dJ=>nA<|qO rfl<|sBK dJ (encStage e0).toArray 53 fun jg _ eJ=>nA<|qV 1<|qO rfl<|sTk eJ 2 rfl [.slice (At ig 0) 2 2, .slice (At jg 0) 1 1, .slice (At z0 0) 1 1,I 0] fun _ fJ=>nA<|qN<|jXI 0 rfl<|⟨(e0,i0,m0,ig,hg,jg,z0),alB,(fJ.picks [5,2,3,5]),om,j0,k0,(by have h:=l0;omega)⟩
    exact qO rfl<|sBK e8 (encStage e0).toArray 53 fun kg _ lg=>nZ lg [7,5]<|qO rfl<|sBK lg #[I a0.w,I a0.h,I a0.max_, .slice a0.pix.a a0.pix.n a0.pix.k,I b0.w,I b0.h,I b0.max_, .slice b0.pix.a b0.pix.n b0.pix.k] 38 fun mg _ hJ=>nA<|qV 1<|qO rfl<|sTk hJ 2 rfl [.slice (At mg 0) 2 2, .slice (At kg 0) 1 1, .slice (At z0 0) 1 1,I 0] fun _ iJ=>nA<|qN<|jXI 0 rfl<|⟨(e0,i0,m0,mg,hg,kg,z0),alB,(iJ.picks [5,1,3,5]),om,j0,k0,(by have h:=l0;omega)⟩
   refine qO rfl<|sAlloc a4 zeroValue28 fun j2 _ k5=>nZ k5 [5,3]<|qF3 ?_ ?_ ?_
   ·refine qO rfl<|sBK k5 #[I a0.w,I a0.h,I a0.max_, .slice a0.pix.a a0.pix.n a0.pix.k,I b0.w,I b0.h,I b0.max_, .slice b0.pix.a b0.pix.n b0.pix.k] 38 fun l5 _ ng=>nA<|qF ?_ ?_
    rotate_left
    ·exact qO rfl<|sBK ng #[I 2] 3 fun og _ kJ=>nA<|qO rfl<|sBK kJ (encStage e0).toArray 53 fun pg _ lJ=>nA<|qV 1<|qO rfl<|sTk lJ 3 rfl [.slice (At l5 0) 2 2, .slice (At pg 0) 1 1, .slice (At og 0) 1 1,I 0] fun _ mJ=>nA<|qN<|jXI 0 rfl<|⟨(e0,i0,m0,l5,j2,pg,og),alB,(mJ.picks [5,3,4,5]),om,j0,k0,(by have h:=l0;omega)⟩
    exact qO rfl<|sBK ng (encStage e0).toArray 53 fun qg _ oJ=>nA<|qO rfl<|sBK oJ #[I 2] 3 fun rg _ pJ=>nA<|qV 1<|qO rfl<|sTk pJ 3 rfl [.slice (At l5 0) 2 2, .slice (At qg 0) 1 1, .slice (At rg 0) 1 1,I 0] fun _ qJ=>nA<|qN<|jXI 0 rfl<|⟨(e0,i0,m0,l5,j2,qg,rg),alB,(qJ.picks [1,5,3,4,5]),om,j0,k0,(by have h:=l0;omega)⟩
   ·refine qO rfl<|sBK k5 (encStage e0).toArray 53 fun m5 _ f8=>nZ f8 [6,4]<|qF ?_ ?_
    ·exact qO rfl<|sBK f8 #[I a0.w,I a0.h,I a0.max_, .slice a0.pix.a a0.pix.n a0.pix.k,I b0.w,I b0.h,I b0.max_, .slice b0.pix.a b0.pix.n b0.pix.k] 38 fun sg _ sJ=>nA<|qO rfl<|sBK sJ #[I 2] 3 fun tg _ tJ=>nA<|qV 1<|qO rfl<|sTk tJ 3 rfl [.slice (At sg 0) 2 2, .slice (At m5 0) 1 1, .slice (At tg 0) 1 1,I 0] fun _ uJ=>nA<|qN<|jXI 0 rfl<|⟨(e0,i0,m0,sg,j2,m5,tg),alB,(uJ.picks [2,5,3,4,5]),om,j0,k0,(by have h:=l0;omega)⟩
    exact qO rfl<|sBK f8 #[I 2] 3 fun ug _ vg=>nZ vg [7,5]<|qO rfl<|sBK vg #[I a0.w,I a0.h,I a0.max_, .slice a0.pix.a a0.pix.n a0.pix.k,I b0.w,I b0.h,I b0.max_, .slice b0.pix.a b0.pix.n b0.pix.k] 38 fun wg _ wJ=>nA<|qV 1<|qO rfl<|sTk wJ 3 rfl [.slice (At wg 0) 2 2, .slice (At m5 0) 1 1, .slice (At ug 0) 1 1,I 0] fun _ xJ=>nA<|qN<|jXI 0 rfl<|⟨(e0,i0,m0,wg,j2,m5,ug),alB,(xJ.picks [2,5,2,4,5]),om,j0,k0,(by have h:=l0;omega)⟩
   refine qO rfl<|sBK k5 #[I 2] 3 fun n5 _ g8=>nZ g8 [6,4]<|qF ?_ ?_
   ·exact qO rfl<|sBK g8 #[I a0.w,I a0.h,I a0.max_, .slice a0.pix.a a0.pix.n a0.pix.k,I b0.w,I b0.h,I b0.max_, .slice b0.pix.a b0.pix.n b0.pix.k] 38 fun xg _ zJ=>nA<|qO rfl<|sBK zJ (encStage e0).toArray 53 fun yg _ aK=>nA<|qV 1<|qO rfl<|sTk aK 3 rfl [.slice (At xg 0) 2 2, .slice (At yg 0) 1 1, .slice (At n5 0) 1 1,I 0] fun _ bK=>nA<|qN<|jXI 0 rfl<|⟨(e0,i0,m0,xg,j2,yg,n5),alB,(bK.picks [5,2,4,5]),om,j0,k0,(by have h:=l0;omega)⟩
   exact qO rfl<|sBK g8 (encStage e0).toArray 53 fun zg _ ah=>nZ ah [7,5]<|qO rfl<|sBK ah #[I a0.w,I a0.h,I a0.max_, .slice a0.pix.a a0.pix.n a0.pix.k,I b0.w,I b0.h,I b0.max_, .slice b0.pix.a b0.pix.n b0.pix.k] 38 fun bh _ dK=>nA<|qV 1<|qO rfl<|sTk dK 3 rfl [.slice (At bh 0) 2 2, .slice (At zg 0) 1 1, .slice (At n5 0) 1 1,I 0] fun _ eK=>nA<|qN<|jXI 0 rfl<|⟨(e0,i0,m0,bh,j2,zg,n5),alB,(eK.picks [5,1,4,5]),om,j0,k0,(by have h:=l0;omega)⟩
  ·refine qO rfl<|sBK z3 #[I 2] 3 fun n0 _ o5=>nZ o5 [4,1]<|qF3 ?_ ?_ ?_
   ·refine qO rfl<|sBK o5 #[I a0.w,I a0.h,I a0.max_, .slice a0.pix.a a0.pix.n a0.pix.k,I b0.w,I b0.h,I b0.max_, .slice b0.pix.a b0.pix.n b0.pix.k] 38 fun k2 _ ch=>nA<|qF ?_ ?_
    rotate_left
    · exact qO rfl<|sAlloc ch zeroValue28 fun gK _ hK=>nA<|qO rfl<|(by have P4:szP (⟨a0.w,a0.h,a0.max_⟩:Shape):=(by have h:=(plane_sz c0.2.2.1).1;unfold sizeP at h;simp only [Plane.v] at h;unfold szP;dsimp only;omega);have iK:=(hK.pick 4 rfl);refine cZ (tg_stage (ht.fl 7) om iK.flat1 0 (⟨a0.w,a0.h,a0.max_⟩:Shape) 1 ‹_› (by unfold numB;omega)) ?_;rintro _ _ ⟨dh,jK,rfl,kK,lK,mK,nK,_,oK⟩;exact nA<|qO rfl<|sBK oK.unflat2 (encStage dh).toArray 53 fun eh _ qK=>nA<|qV 1<|qO rfl<|sTk qK 3 rfl [.slice (At k2 0) 2 2, .slice (At eh 0) 1 1, .slice (At n0 0) 1 1,I 0] fun _ rK=>nA<|qN<|jXI 0 rfl<|⟨(dh,jK,nK,k2,gK,eh,n0),alB,(rK.picks [2,4,4,4]),om,kK,lK,(by have h:=mK;omega)⟩)
    refine qO rfl ?_
    have Q4:szP (⟨a0.w,a0.h,a0.max_⟩:Shape):=by have h:=(plane_sz c0.2.2.1).1;unfold sizeP at h;simp only [Plane.v] at h;unfold szP;dsimp only;omega
    have uK:=(ch.pick 3 rfl)
    refine cZ (tg_stage (ht.fl 6) om uK.flat1 0 (⟨a0.w,a0.h,a0.max_⟩:Shape) 1 ‹_› (by unfold numB;omega)) ?_
    rintro _ _ ⟨p5,fh,rfl,gh,hh,ih,jh,_,vK⟩
    have kh:=vK.unflat2
    refine nA<|qF ?_ ?_
    rotate_left
    ·exact qO rfl<|sAlloc kh zeroValue28 fun wK _ xK=>nA<|qO rfl<|sBK xK (encStage p5).toArray 53 fun lh _ yK=>nA<|qV 1<|qO rfl<|sTk yK 1 rfl [.slice (At k2 0) 2 2, .slice (At lh 0) 1 1, .slice (At n0 0) 1 1,I 0] fun _ zK=>nA<|qN<|jXI 0 rfl<|⟨(p5,fh,jh,k2,wK,lh,n0),alB,(zK.picks [3,4,3,4]),om,gh,hh,(by have h:=ih;omega)⟩
    exact qO rfl<|sBK kh (encStage p5).toArray 53 fun mh _ bL=>nA<|qV 1<|qO rfl<|sAlloc bL zeroValue28 fun cL _ dL=>nA<|qO rfl<|sTk dL 0 rfl [.slice (At k2 0) 2 2, .slice (At mh 0) 1 1, .slice (At n0 0) 1 1,I 0] fun _ eL=>nA<|qN<|jXI 0 rfl<|⟨(p5,fh,jh,k2,cL,mh,n0),alB,(eL.picks [3,4,2,4]),om,gh,hh,(by have h:=ih;omega)⟩
   ·refine qO rfl ?_
    have R4:szP (⟨a0.w,a0.h,a0.max_⟩:Shape):=by have h:=(plane_sz c0.2.2.1).1;unfold sizeP at h;simp only [Plane.v] at h;unfold szP;dsimp only;omega
    have gL:=(o5.pick 2 rfl)
    refine cZ (tg_stage (ht.fl 5) om gL.flat1 0 (⟨a0.w,a0.h,a0.max_⟩:Shape) 1 ‹_› (by unfold numB;omega)) ?_
    rintro _ _ ⟨f1,l2,rfl,m2,n2,o2,p2,_,hL⟩
    have q5:=hL.unflat2
    refine nZ q5 [5,3]<|qF3 ?_ ?_ ?_
    ·refine qO rfl<|sBK q5 #[I a0.w,I a0.h,I a0.max_, .slice a0.pix.a a0.pix.n a0.pix.k,I b0.w,I b0.h,I b0.max_, .slice b0.pix.a b0.pix.n b0.pix.k] 38 fun r5 _ nh=>nA<|qF ?_ ?_
     rotate_left
     ·exact qO rfl<|sAlloc nh zeroValue28 fun iL _ jL=>nA<|qO rfl<|sBK jL (encStage f1).toArray 53 fun oh _ kL=>nA<|qV 1<|qO rfl<|sTk kL 1 rfl [.slice (At r5 0) 2 2, .slice (At oh 0) 1 1, .slice (At n0 0) 1 1,I 0] fun _ lL=>nA<|qN<|jXI 0 rfl<|⟨(f1,l2,p2,r5,iL,oh,n0),alB,(lL.picks [4,3,3,4]),om,m2,n2,(by have h:=o2;omega)⟩
     exact qO rfl<|sBK nh (encStage f1).toArray 53 fun ph _ nL=>nA<|qV 1<|qO rfl<|sAlloc nL zeroValue28 fun oL _ pL=>nA<|qO rfl<|sTk pL 0 rfl [.slice (At r5 0) 2 2, .slice (At ph 0) 1 1, .slice (At n0 0) 1 1,I 0] fun _ rL=>nA<|qN<|jXI 0 rfl<|⟨(f1,l2,p2,r5,oL,ph,n0),alB,(rL.picks [4,3,2,4]),om,m2,n2,(by have h:=o2;omega)⟩
    ·refine qO rfl<|sBK q5 (encStage f1).toArray 53 fun s5 _ h8=>nZ h8 [6,4]<|qF ?_ ?_
     ·exact qO rfl<|sBK h8 #[I a0.w,I a0.h,I a0.max_, .slice a0.pix.a a0.pix.n a0.pix.k,I b0.w,I b0.h,I b0.max_, .slice b0.pix.a b0.pix.n b0.pix.k] 38 fun qh _ uL=>nA<|qV 1<|qO rfl<|sAlloc uL zeroValue28 fun vL _ xL=>nA<|qO rfl<|sTk xL 0 rfl [.slice (At qh 0) 2 2, .slice (At s5 0) 1 1, .slice (At n0 0) 1 1,I 0] fun _ yL=>nA<|qN<|jXI 0 rfl<|⟨(f1,l2,p2,qh,vL,s5,n0),alB,(yL.picks [4,2,2,4]),om,m2,n2,(by have h:=o2;omega)⟩
     exact qO rfl<|sAlloc h8 zeroValue28 fun aM _ rh=>nZ rh [7,5]<|qO rfl<|sBK rh #[I a0.w,I a0.h,I a0.max_, .slice a0.pix.a a0.pix.n a0.pix.k,I b0.w,I b0.h,I b0.max_, .slice b0.pix.a b0.pix.n b0.pix.k] 38 fun sh _ bM=>nA<|qV 1<|qO rfl<|sTk bM 1 rfl [.slice (At sh 0) 2 2, .slice (At s5 0) 1 1, .slice (At n0 0) 1 1,I 0] fun _ cM=>nA<|qN<|jXI 0 rfl<|⟨(f1,l2,p2,sh,aM,s5,n0),alB,(cM.picks [4,1,2,4]),om,m2,n2,(by have h:=o2;omega)⟩
    refine qO rfl<|sAlloc q5 zeroValue28 fun th _ i8=>nZ i8 [6,4]<|qF ?_ ?_
    ·exact qO rfl<|sBK i8 #[I a0.w,I a0.h,I a0.max_, .slice a0.pix.a a0.pix.n a0.pix.k,I b0.w,I b0.h,I b0.max_, .slice b0.pix.a b0.pix.n b0.pix.k] 38 fun uh _ eM=>nA<|qO rfl<|sBK eM (encStage f1).toArray 53 fun vh _ fM=>nA<|qV 1<|qO rfl<|sTk fM 2 rfl [.slice (At uh 0) 2 2, .slice (At vh 0) 1 1, .slice (At n0 0) 1 1,I 0] fun _ gM=>nA<|qN<|jXI 0 rfl<|⟨(f1,l2,p2,uh,th,vh,n0),alB,(gM.picks [4,2,3,4]),om,m2,n2,(by have h:=o2;omega)⟩
    exact qO rfl<|sBK i8 (encStage f1).toArray 53 fun wh _ xh=>nZ xh [7,5]<|qO rfl<|sBK xh #[I a0.w,I a0.h,I a0.max_, .slice a0.pix.a a0.pix.n a0.pix.k,I b0.w,I b0.h,I b0.max_, .slice b0.pix.a b0.pix.n b0.pix.k] 38 fun yh _ iM=>nA<|qV 1<|qO rfl<|sTk iM 2 rfl [.slice (At yh 0) 2 2, .slice (At wh 0) 1 1, .slice (At n0 0) 1 1,I 0] fun _ jM=>nA<|qN<|jXI 0 rfl<|⟨(f1,l2,p2,yh,th,wh,n0),alB,(jM.picks [4,1,3,4]),om,m2,n2,(by have h:=o2;omega)⟩
   refine qO rfl<|sAlloc o5 zeroValue28 fun j8 _ k8=>nZ k8 [5,2]<|qF ?_ ?_
   · exact qO rfl<|sBK k8 #[I a0.w,I a0.h,I a0.max_, .slice a0.pix.a a0.pix.n a0.pix.k,I b0.w,I b0.h,I b0.max_, .slice b0.pix.a b0.pix.n b0.pix.k] 38 fun zh _ lM=>nA<|qO rfl<|(by have S4:szP (⟨a0.w,a0.h,a0.max_⟩:Shape):=(by have h:=(plane_sz c0.2.2.1).1;unfold sizeP at h;simp only [Plane.v] at h;unfold szP;dsimp only;omega);have mM:=(lM.pick 4 rfl);refine cZ (tg_stage (ht.fl 7) om mM.flat1 0 (⟨a0.w,a0.h,a0.max_⟩:Shape) 1 ‹_› (by unfold numB;omega)) ?_;rintro _ _ ⟨ai,nM,rfl,oM,pM,qM,rM,_,tM⟩;exact nA<|qO rfl<|sBK tM.unflat2 (encStage ai).toArray 53 fun bi _ vM=>nA<|qV 1<|qO rfl<|sTk vM 4 rfl [.slice (At zh 0) 2 2, .slice (At bi 0) 1 1, .slice (At n0 0) 1 1,I 0] fun _ wM=>nA<|qN<|jXI 0 rfl<|⟨(ai,nM,rM,zh,j8,bi,n0),alB,(wM.picks [2,3,4,4]),om,oM,pM,(by have h:=qM;omega)⟩)
   refine qO rfl ?_
   have T4:szP (⟨a0.w,a0.h,a0.max_⟩:Shape):=by have h:=(plane_sz c0.2.2.1).1;unfold sizeP at h;simp only [Plane.v] at h;unfold szP;dsimp only;omega
   have yM:=(k8.pick 3 rfl)
   refine cZ (tg_stage (ht.fl 6) om yM.flat1 0 (⟨a0.w,a0.h,a0.max_⟩:Shape) 1 ‹_› (by unfold numB;omega)) ?_
   rintro _ _ ⟨t5,ci,rfl,di,ei,fi,gi,_,zM⟩
   have l8:=zM.unflat2
   refine nZ l8 [6,4]<|qF ?_ ?_
   ·exact qO rfl<|sBK l8 #[I a0.w,I a0.h,I a0.max_, .slice a0.pix.a a0.pix.n a0.pix.k,I b0.w,I b0.h,I b0.max_, .slice b0.pix.a b0.pix.n b0.pix.k] 38 fun ii _ aN=>nA<|qO rfl<|sBK aN (encStage t5).toArray 53 fun ji _ dN=>nA<|qV 1<|qO rfl<|sTk dN 4 rfl [.slice (At ii 0) 2 2, .slice (At ji 0) 1 1, .slice (At n0 0) 1 1,I 0] fun _ eN=>nA<|qN<|jXI 0 rfl<|⟨(t5,ci,gi,ii,j8,ji,n0),alB,(eN.picks [3,2,4,4]),om,di,ei,(by have h:=fi;omega)⟩
   exact qO rfl<|sBK l8 (encStage t5).toArray 53 fun ki _ li=>nZ li [7,5]<|qO rfl<|sBK li #[I a0.w,I a0.h,I a0.max_, .slice a0.pix.a a0.pix.n a0.pix.k,I b0.w,I b0.h,I b0.max_, .slice b0.pix.a b0.pix.n b0.pix.k] 38 fun mi _ gN=>nA<|qV 1<|qO rfl<|sTk gN 4 rfl [.slice (At mi 0) 2 2, .slice (At ki 0) 1 1, .slice (At n0 0) 1 1,I 0] fun _ hN=>nA<|qN<|jXI 0 rfl<|⟨(t5,ci,gi,mi,j8,ki,n0),alB,(hN.picks [3,1,4,4]),om,di,ei,(by have h:=fi;omega)⟩
  refine qO rfl<|sAlloc z3 zeroValue28 fun a1 _ u5=>nZ u5 [4,1]<|qF3 ?_ ?_ ?_
  ·refine qO rfl<|sBK u5 #[I a0.w,I a0.h,I a0.max_, .slice a0.pix.a a0.pix.n a0.pix.k,I b0.w,I b0.h,I b0.max_, .slice b0.pix.a b0.pix.n b0.pix.k] 38 fun q2 _ ni=>nA<|qF ?_ ?_
   rotate_left
   · exact qO rfl<|sBK ni #[I 2] 3 fun oi _ jN=>nA<|qO rfl<|(by have U4:szP (⟨a0.w,a0.h,a0.max_⟩:Shape):=(by have h:=(plane_sz c0.2.2.1).1;unfold sizeP at h;simp only [Plane.v] at h;unfold szP;dsimp only;omega);have kN:=(jN.pick 4 rfl);refine cZ (tg_stage (ht.fl 7) om kN.flat1 0 (⟨a0.w,a0.h,a0.max_⟩:Shape) 1 ‹_› (by unfold numB;omega)) ?_;rintro _ _ ⟨pi,lN,rfl,mN,nN,oN,pN,_,rN⟩;exact nA<|qO rfl<|sBK rN.unflat2 (encStage pi).toArray 53 fun qi _ vN=>nA<|qV 1<|qO rfl<|sTk vN 5 rfl [.slice (At q2 0) 2 2, .slice (At qi 0) 1 1, .slice (At oi 0) 1 1,I 0] fun _ xN=>nA<|qN<|jXI 0 rfl<|⟨(pi,lN,pN,q2,a1,qi,oi),alB,(xN.picks [2,4,5,4]),om,mN,nN,(by have h:=oN;omega)⟩)
   refine qO rfl ?_
   have V4:szP (⟨a0.w,a0.h,a0.max_⟩:Shape):=by have h:=(plane_sz c0.2.2.1).1;unfold sizeP at h;simp only [Plane.v] at h;unfold szP;dsimp only;omega
   have zN:=(ni.pick 3 rfl)
   refine cZ (tg_stage (ht.fl 6) om zN.flat1 0 (⟨a0.w,a0.h,a0.max_⟩:Shape) 1 ‹_› (by unfold numB;omega)) ?_
   rintro _ _ ⟨v5,ri,rfl,si,ti,ui,vi,_,aO⟩
   have wi:=aO.unflat2
   refine nA<|qF ?_ ?_
   rotate_left
   ·exact qO rfl<|sBK wi #[I 2] 3 fun xi _ bO=>nA<|qO rfl<|sBK bO (encStage v5).toArray 53 fun yi _ cO=>nA<|qV 1<|qO rfl<|sTk cO 5 rfl [.slice (At q2 0) 2 2, .slice (At yi 0) 1 1, .slice (At xi 0) 1 1,I 0] fun _ dO=>nA<|qN<|jXI 0 rfl<|⟨(v5,ri,vi,q2,a1,yi,xi),alB,(dO.picks [3,4,5,5]),om,si,ti,(by have h:=ui;omega)⟩
   exact qO rfl<|sBK wi (encStage v5).toArray 53 fun zi _ fO=>nA<|qO rfl<|sBK fO #[I 2] 3 fun aj _ gO=>nA<|qV 1<|qO rfl<|sTk gO 5 rfl [.slice (At q2 0) 2 2, .slice (At zi 0) 1 1, .slice (At aj 0) 1 1,I 0] fun _ hO=>nA<|qN<|jXI 0 rfl<|⟨(v5,ri,vi,q2,a1,zi,aj),alB,(hO.picks [1,3,4,5,5]),om,si,ti,(by have h:=ui;omega)⟩
  ·refine qO rfl ?_
   have W4:szP (⟨a0.w,a0.h,a0.max_⟩:Shape):=by have h:=(plane_sz c0.2.2.1).1;unfold sizeP at h;simp only [Plane.v] at h;unfold szP;dsimp only;omega
   have jO:=(u5.pick 2 rfl)
   refine cZ (tg_stage (ht.fl 5) om jO.flat1 0 (⟨a0.w,a0.h,a0.max_⟩:Shape) 1 ‹_› (by unfold numB;omega)) ?_
   rintro _ _ ⟨g1,r2,rfl,s2,t2,u2,v2,_,kO⟩
   have w5:=kO.unflat2
   refine nZ w5 [5,3]<|qF3 ?_ ?_ ?_
   ·refine qO rfl<|sBK w5 #[I a0.w,I a0.h,I a0.max_, .slice a0.pix.a a0.pix.n a0.pix.k,I b0.w,I b0.h,I b0.max_, .slice b0.pix.a b0.pix.n b0.pix.k] 38 fun x5 _ bj=>nA<|qF ?_ ?_
    rotate_left
    ·exact qO rfl<|sBK bj #[I 2] 3 fun cj _ lO=>nA<|qO rfl<|sBK lO (encStage g1).toArray 53 fun dj _ mO=>nA<|qV 1<|qO rfl<|sTk mO 5 rfl [.slice (At x5 0) 2 2, .slice (At dj 0) 1 1, .slice (At cj 0) 1 1,I 0] fun _ nO=>nA<|qN<|jXI 0 rfl<|⟨(g1,r2,v2,x5,a1,dj,cj),alB,(nO.picks [4,3,5,5]),om,s2,t2,(by have h:=u2;omega)⟩
    exact qO rfl<|sBK bj (encStage g1).toArray 53 fun ej _ pO=>nA<|qO rfl<|sBK pO #[I 2] 3 fun fj _ rO=>nA<|qV 1<|qO rfl<|sTk rO 5 rfl [.slice (At x5 0) 2 2, .slice (At ej 0) 1 1, .slice (At fj 0) 1 1,I 0] fun _ sO=>nA<|qN<|jXI 0 rfl<|⟨(g1,r2,v2,x5,a1,ej,fj),alB,(sO.picks [1,4,3,5,5]),om,s2,t2,(by have h:=u2;omega)⟩
   ·refine qO rfl<|sBK w5 (encStage g1).toArray 53 fun y5 _ m8=>nZ m8 [6,4]<|qF ?_ ?_
    ·exact qO rfl<|sBK m8 #[I a0.w,I a0.h,I a0.max_, .slice a0.pix.a a0.pix.n a0.pix.k,I b0.w,I b0.h,I b0.max_, .slice b0.pix.a b0.pix.n b0.pix.k] 38 fun gj _ uO=>nA<|qO rfl<|sBK uO #[I 2] 3 fun ij _ vO=>nA<|qV 1<|qO rfl<|sTk vO 5 rfl [.slice (At gj 0) 2 2, .slice (At y5 0) 1 1, .slice (At ij 0) 1 1,I 0] fun _ xO=>nA<|qN<|jXI 0 rfl<|⟨(g1,r2,v2,gj,a1,y5,ij),alB,(xO.picks [2,4,3,5,5]),om,s2,t2,(by have h:=u2;omega)⟩
    exact qO rfl<|sBK m8 #[I 2] 3 fun jj _ kj=>nZ kj [7,5]<|qO rfl<|sBK kj #[I a0.w,I a0.h,I a0.max_, .slice a0.pix.a a0.pix.n a0.pix.k,I b0.w,I b0.h,I b0.max_, .slice b0.pix.a b0.pix.n b0.pix.k] 38 fun lj _ zO=>nA<|qV 1<|qO rfl<|sTk zO 5 rfl [.slice (At lj 0) 2 2, .slice (At y5 0) 1 1, .slice (At jj 0) 1 1,I 0] fun _ aP=>nA<|qN<|jXI 0 rfl<|⟨(g1,r2,v2,lj,a1,y5,jj),alB,(aP.picks [2,4,2,5,5]),om,s2,t2,(by have h:=u2;omega)⟩
   refine qO rfl<|sBK w5 #[I 2] 3 fun z5 _ n8=>nZ n8 [6,4]<|qF ?_ ?_
   ·exact qO rfl<|sBK n8 #[I a0.w,I a0.h,I a0.max_, .slice a0.pix.a a0.pix.n a0.pix.k,I b0.w,I b0.h,I b0.max_, .slice b0.pix.a b0.pix.n b0.pix.k] 38 fun mj _ cP=>nA<|qO rfl<|sBK cP (encStage g1).toArray 53 fun nj _ dP=>nA<|qV 1<|qO rfl<|sTk dP 5 rfl [.slice (At mj 0) 2 2, .slice (At nj 0) 1 1, .slice (At z5 0) 1 1,I 0] fun _ eP=>nA<|qN<|jXI 0 rfl<|⟨(g1,r2,v2,mj,a1,nj,z5),alB,(eP.picks [4,2,5,5]),om,s2,t2,(by have h:=u2;omega)⟩
   exact qO rfl<|sBK n8 (encStage g1).toArray 53 fun oj _ pj=>nZ pj [7,5]<|qO rfl<|sBK pj #[I a0.w,I a0.h,I a0.max_, .slice a0.pix.a a0.pix.n a0.pix.k,I b0.w,I b0.h,I b0.max_, .slice b0.pix.a b0.pix.n b0.pix.k] 38 fun qj _ hP=>nA<|qV 1<|qO rfl<|sTk hP 5 rfl [.slice (At qj 0) 2 2, .slice (At oj 0) 1 1, .slice (At z5 0) 1 1,I 0] fun _ iP=>nA<|qN<|jXI 0 rfl<|⟨(g1,r2,v2,qj,a1,oj,z5),alB,(iP.picks [4,1,5,5]),om,s2,t2,(by have h:=u2;omega)⟩
  refine qO rfl<|sBK u5 #[I 2] 3 fun w2 _ o8=>nZ o8 [5,2]<|qF ?_ ?_
  · exact qO rfl<|sBK o8 #[I a0.w,I a0.h,I a0.max_, .slice a0.pix.a a0.pix.n a0.pix.k,I b0.w,I b0.h,I b0.max_, .slice b0.pix.a b0.pix.n b0.pix.k] 38 fun rj _ kP=>nA<|qO rfl<|(by have X4:szP (⟨a0.w,a0.h,a0.max_⟩:Shape):=(by have h:=(plane_sz c0.2.2.1).1;unfold sizeP at h;simp only [Plane.v] at h;unfold szP;dsimp only;omega);have lP:=(kP.pick 4 rfl);refine cZ (tg_stage (ht.fl 7) om lP.flat1 0 (⟨a0.w,a0.h,a0.max_⟩:Shape) 1 ‹_› (by unfold numB;omega)) ?_;rintro _ _ ⟨sj,mP,rfl,nP,oP,pP,rP,_,tP⟩;exact nA<|qO rfl<|sBK tP.unflat2 (encStage sj).toArray 53 fun tj _ vP=>nA<|qV 1<|qO rfl<|sTk vP 5 rfl [.slice (At rj 0) 2 2, .slice (At tj 0) 1 1, .slice (At w2 0) 1 1,I 0] fun _ xP=>nA<|qN<|jXI 0 rfl<|⟨(sj,mP,rP,rj,a1,tj,w2),alB,(xP.picks [2,3,5,4]),om,nP,oP,(by have h:=pP;omega)⟩)
  refine qO rfl ?_
  have Y4:szP (⟨a0.w,a0.h,a0.max_⟩:Shape):=by have h:=(plane_sz c0.2.2.1).1;unfold sizeP at h;simp only [Plane.v] at h;unfold szP;dsimp only;omega
  have zP:=(o8.pick 3 rfl)
  refine cZ (tg_stage (ht.fl 6) om zP.flat1 0 (⟨a0.w,a0.h,a0.max_⟩:Shape) 1 ‹_› (by unfold numB;omega)) ?_
  rintro _ _ ⟨a6,uj,rfl,vj,wj,xj,yj,_,aQ⟩
  have p8:=aQ.unflat2
  refine nZ p8 [6,4]<|qF ?_ ?_
  ·exact qO rfl<|sBK p8 #[I a0.w,I a0.h,I a0.max_, .slice a0.pix.a a0.pix.n a0.pix.k,I b0.w,I b0.h,I b0.max_, .slice b0.pix.a b0.pix.n b0.pix.k] 38 fun zj _ bQ=>nA<|qO rfl<|sBK bQ (encStage a6).toArray 53 fun ak _ cQ=>nA<|qV 1<|qO rfl<|sTk cQ 5 rfl [.slice (At zj 0) 2 2, .slice (At ak 0) 1 1, .slice (At w2 0) 1 1,I 0] fun _ dQ=>nA<|qN<|jXI 0 rfl<|⟨(a6,uj,yj,zj,a1,ak,w2),alB,(dQ.picks [3,2,5,4]),om,vj,wj,(by have h:=xj;omega)⟩
  exact qO rfl<|sBK p8 (encStage a6).toArray 53 fun bk _ ck=>nZ ck [7,5]<|qO rfl<|sBK ck #[I a0.w,I a0.h,I a0.max_, .slice a0.pix.a a0.pix.n a0.pix.k,I b0.w,I b0.h,I b0.max_, .slice b0.pix.a b0.pix.n b0.pix.k] 38 fun dk _ fQ=>nA<|qV 1<|qO rfl<|sTk fQ 5 rfl [.slice (At dk 0) 2 2, .slice (At bk 0) 1 1, .slice (At w2 0) 1 1,I 0] fun _ gQ=>nA<|qN<|jXI 0 rfl<|⟨(a6,uj,yj,dk,a1,bk,w2),alB,(gQ.picks [3,1,5,4]),om,vj,wj,(by have h:=xj;omega)⟩
 ·refine qO rfl<|sBK p4 #[I 2] 3 fun f0 _ c6=>nZ c6 [4,1,4]<|qF3 ?_ ?_ ?_
  ·refine qO rfl<|sBK c6 #[I a0.w,I a0.h,I a0.max_, .slice a0.pix.a a0.pix.n a0.pix.k,I b0.w,I b0.h,I b0.max_, .slice b0.pix.a b0.pix.n b0.pix.k] 38 fun l1 _ q8=>nZ q8 [5]<|qF ?_ ?_
   rotate_left
   · exact qO rfl<|sAlloc q8 zeroValue28 fun iQ _ ek=>nZ ek [6]<|qO rfl<|cS (r17_of a0 ⟨(t0.pix.fl 7)⟩ ek.flat) fun _ jQ=>nA<|qO rfl<|(by have Z4:szP (⟨a0.w,a0.h,a0.max_⟩:Shape):=(by have h:=(plane_sz c0.2.2.1).1;unfold sizeP at h;simp only [Plane.v] at h;unfold szP;dsimp only;omega);have kQ:=(jQ.pick 4 rfl);refine cZ (tg_stage (ht.fl 7) om kQ.flat1 0 (⟨a0.w,a0.h,a0.max_⟩:Shape) 1 ‹_› (by unfold numB;omega)) ?_;rintro _ _ ⟨gk,lQ,rfl,mQ,nQ,oQ,pQ,_,qQ⟩;exact nA<|qO rfl<|sBK qQ.unflat2 (encStage gk).toArray 53 fun hk _ sQ=>nA<|qV 1<|qO rfl<|sTk sQ 3 rfl [.slice (At l1 0) 2 2, .slice (At hk 0) 1 1, .slice (At f0 0) 1 1,I 0] fun _ tQ=>nA<|qN<|jXI 0 rfl<|⟨(gk,lQ,pQ,l1,iQ,hk,f0),alB,(tQ.picks [2,4,4,4]),om,mQ,nQ,(by have h:=oQ;omega)⟩)
   refine qO rfl<|cS (r17_of a0 ⟨(t0.pix.fl 6)⟩ q8.flat) fun _ ik=>nA<|qF ?_ ?_
   rotate_left
   · exact qO rfl<|sAlloc ik zeroValue28 fun vQ _ wQ=>nA<|qO rfl<|(by have A5:szP (⟨a0.w,a0.h,a0.max_⟩:Shape):=(by have h:=(plane_sz c0.2.2.1).1;unfold sizeP at h;simp only [Plane.v] at h;unfold szP;dsimp only;omega);have xQ:=(wQ.pick 4 rfl);refine cZ (tg_stage (ht.fl 7) om xQ.flat1 0 (⟨a0.w,a0.h,a0.max_⟩:Shape) 1 ‹_› (by unfold numB;omega)) ?_;rintro _ _ ⟨jk,yQ,rfl,aR,dR,eR,gR,_,hR⟩;exact nA<|qO rfl<|sBK hR.unflat2 (encStage jk).toArray 53 fun kk _ jR=>nA<|qV 1<|qO rfl<|sTk jR 3 rfl [.slice (At l1 0) 2 2, .slice (At kk 0) 1 1, .slice (At f0 0) 1 1,I 0] fun _ kR=>nA<|qN<|jXI 0 rfl<|⟨(jk,yQ,gR,l1,vQ,kk,f0),alB,(kR.picks [2,4,4,4]),om,aR,dR,(by have h:=eR;omega)⟩)
   refine qO rfl ?_
   have B5:szP (⟨a0.w,a0.h,a0.max_⟩:Shape):=by have h:=(plane_sz c0.2.2.1).1;unfold sizeP at h;simp only [Plane.v] at h;unfold szP;dsimp only;omega
   have mR:=(ik.pick 3 rfl)
   refine cZ (tg_stage (ht.fl 6) om mR.flat1 0 (⟨a0.w,a0.h,a0.max_⟩:Shape) 1 ‹_› (by unfold numB;omega)) ?_
   rintro _ _ ⟨d6,lk,rfl,mk,nk,ok,pk,_,nR⟩
   have qk:=nR.unflat2
   refine nA<|qF ?_ ?_
   rotate_left
   ·exact qO rfl<|sAlloc qk zeroValue28 fun oR _ pR=>nA<|qO rfl<|sBK pR (encStage d6).toArray 53 fun rk _ qR=>nA<|qV 1<|qO rfl<|sTk qR 1 rfl [.slice (At l1 0) 2 2, .slice (At rk 0) 1 1, .slice (At f0 0) 1 1,I 0] fun _ rR=>nA<|qN<|jXI 0 rfl<|⟨(d6,lk,pk,l1,oR,rk,f0),alB,(rR.picks [3,4,3,4]),om,mk,nk,(by have h:=ok;omega)⟩
   exact qO rfl<|sBK qk (encStage d6).toArray 53 fun sk _ vR=>nA<|qV 1<|qO rfl<|sAlloc vR zeroValue28 fun wR _ xR=>nA<|qO rfl<|sTk xR 0 rfl [.slice (At l1 0) 2 2, .slice (At sk 0) 1 1, .slice (At f0 0) 1 1,I 0] fun _ yR=>nA<|qN<|jXI 0 rfl<|⟨(d6,lk,pk,l1,wR,sk,f0),alB,(yR.picks [3,4,2,4]),om,mk,nk,(by have h:=ok;omega)⟩
  ·refine qO rfl<|cS (r17_of a0 ⟨(t0.pix.fl 5)⟩ c6.flat) fun _ e6=>nZ e6 [4,1]<|qF3 ?_ ?_ ?_
   ·refine qO rfl<|sBK e6 #[I a0.w,I a0.h,I a0.max_, .slice a0.pix.a a0.pix.n a0.pix.k,I b0.w,I b0.h,I b0.max_, .slice b0.pix.a b0.pix.n b0.pix.k] 38 fun x2 _ tk=>nA<|qF ?_ ?_
    rotate_left
    · exact qO rfl<|sAlloc tk zeroValue28 fun bS _ dS=>nA<|qO rfl<|(by have C5:szP (⟨a0.w,a0.h,a0.max_⟩:Shape):=(by have h:=(plane_sz c0.2.2.1).1;unfold sizeP at h;simp only [Plane.v] at h;unfold szP;dsimp only;omega);have eS:=(dS.pick 4 rfl);refine cZ (tg_stage (ht.fl 7) om eS.flat1 0 (⟨a0.w,a0.h,a0.max_⟩:Shape) 1 ‹_› (by unfold numB;omega)) ?_;rintro _ _ ⟨uk,fS,rfl,gS,iS,jS,lS,_,nS⟩;exact nA<|qO rfl<|sBK nS.unflat2 (encStage uk).toArray 53 fun vk _ pS=>nA<|qV 1<|qO rfl<|sTk pS 3 rfl [.slice (At x2 0) 2 2, .slice (At vk 0) 1 1, .slice (At f0 0) 1 1,I 0] fun _ qS=>nA<|qN<|jXI 0 rfl<|⟨(uk,fS,lS,x2,bS,vk,f0),alB,(qS.picks [2,4,4,4]),om,gS,iS,(by have h:=jS;omega)⟩)
    refine qO rfl ?_
    have D5:szP (⟨a0.w,a0.h,a0.max_⟩:Shape):=by have h:=(plane_sz c0.2.2.1).1;unfold sizeP at h;simp only [Plane.v] at h;unfold szP;dsimp only;omega
    have sS:=(tk.pick 3 rfl)
    refine cZ (tg_stage (ht.fl 6) om sS.flat1 0 (⟨a0.w,a0.h,a0.max_⟩:Shape) 1 ‹_› (by unfold numB;omega)) ?_
    rintro _ _ ⟨f6,wk,rfl,xk,yk,zk,al,_,tS⟩
    have bl:=tS.unflat2
    refine nA<|qF ?_ ?_
    rotate_left
    ·exact qO rfl<|sAlloc bl zeroValue28 fun uS _ vS=>nA<|qO rfl<|sBK vS (encStage f6).toArray 53 fun cl _ wS=>nA<|qV 1<|qO rfl<|sTk wS 1 rfl [.slice (At x2 0) 2 2, .slice (At cl 0) 1 1, .slice (At f0 0) 1 1,I 0] fun _ xS=>nA<|qN<|jXI 0 rfl<|⟨(f6,wk,al,x2,uS,cl,f0),alB,(xS.picks [3,4,3,4]),om,xk,yk,(by have h:=zk;omega)⟩
    exact qO rfl<|sBK bl (encStage f6).toArray 53 fun dl _ aT=>nA<|qV 1<|qO rfl<|sAlloc aT zeroValue28 fun bT _ dT=>nA<|qO rfl<|sTk dT 0 rfl [.slice (At x2 0) 2 2, .slice (At dl 0) 1 1, .slice (At f0 0) 1 1,I 0] fun _ eT=>nA<|qN<|jXI 0 rfl<|⟨(f6,wk,al,x2,bT,dl,f0),alB,(eT.picks [3,4,2,4]),om,xk,yk,(by have h:=zk;omega)⟩
   ·refine qO rfl ?_
    have E5:szP (⟨a0.w,a0.h,a0.max_⟩:Shape):=by have h:=(plane_sz c0.2.2.1).1;unfold sizeP at h;simp only [Plane.v] at h;unfold szP;dsimp only;omega
    have gT:=(e6.pick 2 rfl)
    refine cZ (tg_stage (ht.fl 5) om gT.flat1 0 (⟨a0.w,a0.h,a0.max_⟩:Shape) 1 ‹_› (by unfold numB;omega)) ?_
    rintro _ _ ⟨h1,y2,rfl,z2,a3,b3,c3,_,hT⟩
    have g6:=hT.unflat2
    refine nZ g6 [5,3]<|qF3 ?_ ?_ ?_
    ·refine qO rfl<|sBK g6 #[I a0.w,I a0.h,I a0.max_, .slice a0.pix.a a0.pix.n a0.pix.k,I b0.w,I b0.h,I b0.max_, .slice b0.pix.a b0.pix.n b0.pix.k] 38 fun h6 _ el=>nA<|qF ?_ ?_
     rotate_left
     ·exact qO rfl<|sAlloc el zeroValue28 fun iT _ jT=>nA<|qO rfl<|sBK jT (encStage h1).toArray 53 fun fl _ lT=>nA<|qV 1<|qO rfl<|sTk lT 1 rfl [.slice (At h6 0) 2 2, .slice (At fl 0) 1 1, .slice (At f0 0) 1 1,I 0] fun _ mT=>nA<|qN<|jXI 0 rfl<|⟨(h1,y2,c3,h6,iT,fl,f0),alB,(mT.picks [4,3,3,4]),om,z2,a3,(by have h:=b3;omega)⟩
     exact qO rfl<|sBK el (encStage h1).toArray 53 fun gl _ pT=>nA<|qV 1<|qO rfl<|sAlloc pT zeroValue28 fun qT _ rT=>nA<|qO rfl<|sTk rT 0 rfl [.slice (At h6 0) 2 2, .slice (At gl 0) 1 1, .slice (At f0 0) 1 1,I 0] fun _ tT=>nA<|qN<|jXI 0 rfl<|⟨(h1,y2,c3,h6,qT,gl,f0),alB,(tT.picks [4,3,2,4]),om,z2,a3,(by have h:=b3;omega)⟩
    ·refine qO rfl<|sBK g6 (encStage h1).toArray 53 fun i6 _ r8=>nZ r8 [6,4]<|qF ?_ ?_
     ·exact qO rfl<|sBK r8 #[I a0.w,I a0.h,I a0.max_, .slice a0.pix.a a0.pix.n a0.pix.k,I b0.w,I b0.h,I b0.max_, .slice b0.pix.a b0.pix.n b0.pix.k] 38 fun hl _ vT=>nA<|qV 1<|qO rfl<|sAlloc vT zeroValue28 fun wT _ xT=>nA<|qO rfl<|sTk xT 0 rfl [.slice (At hl 0) 2 2, .slice (At i6 0) 1 1, .slice (At f0 0) 1 1,I 0] fun _ yT=>nA<|qN<|jXI 0 rfl<|⟨(h1,y2,c3,hl,wT,i6,f0),alB,(yT.picks [4,2,2,4]),om,z2,a3,(by have h:=b3;omega)⟩
     exact qO rfl<|sAlloc r8 zeroValue28 fun aU _ il=>nZ il [7,5]<|qO rfl<|sBK il #[I a0.w,I a0.h,I a0.max_, .slice a0.pix.a a0.pix.n a0.pix.k,I b0.w,I b0.h,I b0.max_, .slice b0.pix.a b0.pix.n b0.pix.k] 38 fun jl _ bU=>nA<|qV 1<|qO rfl<|sTk bU 1 rfl [.slice (At jl 0) 2 2, .slice (At i6 0) 1 1, .slice (At f0 0) 1 1,I 0] fun _ cU=>nA<|qN<|jXI 0 rfl<|⟨(h1,y2,c3,jl,aU,i6,f0),alB,(cU.picks [4,1,2,4]),om,z2,a3,(by have h:=b3;omega)⟩
    refine qO rfl<|sAlloc g6 zeroValue28 fun kl _ s8=>nZ s8 [6,4]<|qF ?_ ?_
    ·exact qO rfl<|sBK s8 #[I a0.w,I a0.h,I a0.max_, .slice a0.pix.a a0.pix.n a0.pix.k,I b0.w,I b0.h,I b0.max_, .slice b0.pix.a b0.pix.n b0.pix.k] 38 fun ll _ eU=>nA<|qO rfl<|sBK eU (encStage h1).toArray 53 fun ml _ fU=>nA<|qV 1<|qO rfl<|sTk fU 2 rfl [.slice (At ll 0) 2 2, .slice (At ml 0) 1 1, .slice (At f0 0) 1 1,I 0] fun _ gU=>nA<|qN<|jXI 0 rfl<|⟨(h1,y2,c3,ll,kl,ml,f0),alB,(gU.picks [4,2,3,4]),om,z2,a3,(by have h:=b3;omega)⟩
    exact qO rfl<|sBK s8 (encStage h1).toArray 53 fun nl _ ol=>nZ ol [7,5]<|qO rfl<|sBK ol #[I a0.w,I a0.h,I a0.max_, .slice a0.pix.a a0.pix.n a0.pix.k,I b0.w,I b0.h,I b0.max_, .slice b0.pix.a b0.pix.n b0.pix.k] 38 fun pl _ iU=>nA<|qV 1<|qO rfl<|sTk iU 2 rfl [.slice (At pl 0) 2 2, .slice (At nl 0) 1 1, .slice (At f0 0) 1 1,I 0] fun _ jU=>nA<|qN<|jXI 0 rfl<|⟨(h1,y2,c3,pl,kl,nl,f0),alB,(jU.picks [4,1,3,4]),om,z2,a3,(by have h:=b3;omega)⟩
   refine qO rfl<|sAlloc e6 zeroValue28 fun t8 _ u8=>nZ u8 [5,2]<|qF ?_ ?_
   · exact qO rfl<|sBK u8 #[I a0.w,I a0.h,I a0.max_, .slice a0.pix.a a0.pix.n a0.pix.k,I b0.w,I b0.h,I b0.max_, .slice b0.pix.a b0.pix.n b0.pix.k] 38 fun ql _ lU=>nA<|qO rfl<|(by have F5:szP (⟨a0.w,a0.h,a0.max_⟩:Shape):=(by have h:=(plane_sz c0.2.2.1).1;unfold sizeP at h;simp only [Plane.v] at h;unfold szP;dsimp only;omega);have mU:=(lU.pick 4 rfl);refine cZ (tg_stage (ht.fl 7) om mU.flat1 0 (⟨a0.w,a0.h,a0.max_⟩:Shape) 1 ‹_› (by unfold numB;omega)) ?_;rintro _ _ ⟨rl,nU,rfl,oU,pU,rU,sU,_,tU⟩;exact nA<|qO rfl<|sBK tU.unflat2 (encStage rl).toArray 53 fun sl _ vU=>nA<|qV 1<|qO rfl<|sTk vU 4 rfl [.slice (At ql 0) 2 2, .slice (At sl 0) 1 1, .slice (At f0 0) 1 1,I 0] fun _ xU=>nA<|qN<|jXI 0 rfl<|⟨(rl,nU,sU,ql,t8,sl,f0),alB,(xU.picks [2,3,4,4]),om,oU,pU,(by have h:=rU;omega)⟩)
   refine qO rfl ?_
   have G5:szP (⟨a0.w,a0.h,a0.max_⟩:Shape):=by have h:=(plane_sz c0.2.2.1).1;unfold sizeP at h;simp only [Plane.v] at h;unfold szP;dsimp only;omega
   have zU:=(u8.pick 3 rfl)
   refine cZ (tg_stage (ht.fl 6) om zU.flat1 0 (⟨a0.w,a0.h,a0.max_⟩:Shape) 1 ‹_› (by unfold numB;omega)) ?_
   rintro _ _ ⟨j6,tl,rfl,ul,vl,wl,xl,_,aV⟩
   have v8:=aV.unflat2
   refine nZ v8 [6,4]<|qF ?_ ?_
   ·exact qO rfl<|sBK v8 #[I a0.w,I a0.h,I a0.max_, .slice a0.pix.a a0.pix.n a0.pix.k,I b0.w,I b0.h,I b0.max_, .slice b0.pix.a b0.pix.n b0.pix.k] 38 fun yl _ bV=>nA<|qO rfl<|sBK bV (encStage j6).toArray 53 fun zl _ cV=>nA<|qV 1<|qO rfl<|sTk cV 4 rfl [.slice (At yl 0) 2 2, .slice (At zl 0) 1 1, .slice (At f0 0) 1 1,I 0] fun _ dV=>nA<|qN<|jXI 0 rfl<|⟨(j6,tl,xl,yl,t8,zl,f0),alB,(dV.picks [3,2,4,4]),om,ul,vl,(by have h:=wl;omega)⟩
   exact qO rfl<|sBK v8 (encStage j6).toArray 53 fun am _ cm=>nZ cm [7,5]<|qO rfl<|sBK cm #[I a0.w,I a0.h,I a0.max_, .slice a0.pix.a a0.pix.n a0.pix.k,I b0.w,I b0.h,I b0.max_, .slice b0.pix.a b0.pix.n b0.pix.k] 38 fun dm _ fV=>nA<|qV 1<|qO rfl<|sTk fV 4 rfl [.slice (At dm 0) 2 2, .slice (At am 0) 1 1, .slice (At f0 0) 1 1,I 0] fun _ gV=>nA<|qN<|jXI 0 rfl<|⟨(j6,tl,xl,dm,t8,am,f0),alB,(gV.picks [3,1,4,4]),om,ul,vl,(by have h:=wl;omega)⟩
  refine qO rfl<|sAlloc c6 zeroValue28 fun k6 _ w8=>nZ w8 [5,2,5]<|qF ?_ ?_
  · exact qO rfl<|sBK w8 #[I a0.w,I a0.h,I a0.max_, .slice a0.pix.a a0.pix.n a0.pix.k,I b0.w,I b0.h,I b0.max_, .slice b0.pix.a b0.pix.n b0.pix.k] 38 fun em _ fm=>nZ fm [6]<|qO rfl<|cS (r17_of a0 ⟨(t0.pix.fl 7)⟩ fm.flat) fun _ iV=>nA<|qO rfl<|(by have H5:szP (⟨a0.w,a0.h,a0.max_⟩:Shape):=(by have h:=(plane_sz c0.2.2.1).1;unfold sizeP at h;simp only [Plane.v] at h;unfold szP;dsimp only;omega);have jV:=(iV.pick 4 rfl);refine cZ (tg_stage (ht.fl 7) om jV.flat1 0 (⟨a0.w,a0.h,a0.max_⟩:Shape) 1 ‹_› (by unfold numB;omega)) ?_;rintro _ _ ⟨gm,kV,rfl,lV,mV,nV,oV,_,pV⟩;exact nA<|qO rfl<|sBK pV.unflat2 (encStage gm).toArray 53 fun hm _ sV=>nA<|qV 1<|qO rfl<|sTk sV 4 rfl [.slice (At em 0) 2 2, .slice (At hm 0) 1 1, .slice (At f0 0) 1 1,I 0] fun _ tV=>nA<|qN<|jXI 0 rfl<|⟨(gm,kV,oV,em,k6,hm,f0),alB,(tV.picks [2,3,4,4]),om,lV,mV,(by have h:=nV;omega)⟩)
  refine qO rfl<|cS (r17_of a0 ⟨(t0.pix.fl 6)⟩ w8.flat) fun _ x8=>nZ x8 [5,2]<|qF ?_ ?_
  · exact qO rfl<|sBK x8 #[I a0.w,I a0.h,I a0.max_, .slice a0.pix.a a0.pix.n a0.pix.k,I b0.w,I b0.h,I b0.max_, .slice b0.pix.a b0.pix.n b0.pix.k] 38 fun im _ vV=>nA<|qO rfl<|(by have I5:szP (⟨a0.w,a0.h,a0.max_⟩:Shape):=(by have h:=(plane_sz c0.2.2.1).1;unfold sizeP at h;simp only [Plane.v] at h;unfold szP;dsimp only;omega);have xV:=(vV.pick 4 rfl);refine cZ (tg_stage (ht.fl 7) om xV.flat1 0 (⟨a0.w,a0.h,a0.max_⟩:Shape) 1 ‹_› (by unfold numB;omega)) ?_;rintro _ _ ⟨jm,yV,rfl,zV,aW,bW,cW,_,dW⟩;exact nA<|qO rfl<|sBK dW.unflat2 (encStage jm).toArray 53 fun km _ fW=>nA<|qV 1<|qO rfl<|sTk fW 4 rfl [.slice (At im 0) 2 2, .slice (At km 0) 1 1, .slice (At f0 0) 1 1,I 0] fun _ gW=>nA<|qN<|jXI 0 rfl<|⟨(jm,yV,cW,im,k6,km,f0),alB,(gW.picks [2,3,4,4]),om,zV,aW,(by have h:=bW;omega)⟩)
  refine qO rfl ?_
  have J5:szP (⟨a0.w,a0.h,a0.max_⟩:Shape):=by have h:=(plane_sz c0.2.2.1).1;unfold sizeP at h;simp only [Plane.v] at h;unfold szP;dsimp only;omega
  have iW:=(x8.pick 3 rfl)
  refine cZ (tg_stage (ht.fl 6) om iW.flat1 0 (⟨a0.w,a0.h,a0.max_⟩:Shape) 1 ‹_› (by unfold numB;omega)) ?_
  rintro _ _ ⟨l6,lm,rfl,mm,nm,pm,qm,_,jW⟩
  have y8:=jW.unflat2
  refine nZ y8 [6,4]<|qF ?_ ?_
  ·exact qO rfl<|sBK y8 #[I a0.w,I a0.h,I a0.max_, .slice a0.pix.a a0.pix.n a0.pix.k,I b0.w,I b0.h,I b0.max_, .slice b0.pix.a b0.pix.n b0.pix.k] 38 fun rm _ kW=>nA<|qO rfl<|sBK kW (encStage l6).toArray 53 fun sm _ lW=>nA<|qV 1<|qO rfl<|sTk lW 4 rfl [.slice (At rm 0) 2 2, .slice (At sm 0) 1 1, .slice (At f0 0) 1 1,I 0] fun _ mW=>nA<|qN<|jXI 0 rfl<|⟨(l6,lm,qm,rm,k6,sm,f0),alB,(mW.picks [3,2,4,4]),om,mm,nm,(by have h:=pm;omega)⟩
  exact qO rfl<|sBK y8 (encStage l6).toArray 53 fun tm _ um=>nZ um [7,5]<|qO rfl<|sBK um #[I a0.w,I a0.h,I a0.max_, .slice a0.pix.a a0.pix.n a0.pix.k,I b0.w,I b0.h,I b0.max_, .slice b0.pix.a b0.pix.n b0.pix.k] 38 fun vm _ oW=>nA<|qV 1<|qO rfl<|sTk oW 4 rfl [.slice (At vm 0) 2 2, .slice (At tm 0) 1 1, .slice (At f0 0) 1 1,I 0] fun _ pW=>nA<|qN<|jXI 0 rfl<|⟨(l6,lm,qm,vm,k6,tm,f0),alB,(pW.picks [3,1,4,4]),om,mm,nm,(by have h:=pm;omega)⟩
 refine qO rfl<|sAlloc p4 zeroValue28 fun s0 _ m6=>nZ m6 [4,1,4]<|qF3 ?_ ?_ ?_
 ·refine qO rfl<|sBK m6 #[I a0.w,I a0.h,I a0.max_, .slice a0.pix.a a0.pix.n a0.pix.k,I b0.w,I b0.h,I b0.max_, .slice b0.pix.a b0.pix.n b0.pix.k] 38 fun m1 _ z8=>nZ z8 [5]<|qF ?_ ?_
  rotate_left
  · exact qO rfl<|sBK z8 #[I 2] 3 fun wm _ xm=>nZ xm [6]<|qO rfl<|cS (r17_of a0 ⟨(t0.pix.fl 7)⟩ xm.flat) fun _ rW=>nA<|qO rfl<|(by have K5:szP (⟨a0.w,a0.h,a0.max_⟩:Shape):=(by have h:=(plane_sz c0.2.2.1).1;unfold sizeP at h;simp only [Plane.v] at h;unfold szP;dsimp only;omega);have sW:=(rW.pick 4 rfl);refine cZ (tg_stage (ht.fl 7) om sW.flat1 0 (⟨a0.w,a0.h,a0.max_⟩:Shape) 1 ‹_› (by unfold numB;omega)) ?_;rintro _ _ ⟨ym,uW,rfl,vW,wW,xW,yW,_,zW⟩;exact nA<|qO rfl<|sBK zW.unflat2 (encStage ym).toArray 53 fun zm _ bX=>nA<|qV 1<|qO rfl<|sTk bX 5 rfl [.slice (At m1 0) 2 2, .slice (At zm 0) 1 1, .slice (At wm 0) 1 1,I 0] fun _ dX=>nA<|qN<|jXI 0 rfl<|⟨(ym,uW,yW,m1,s0,zm,wm),alB,(dX.picks [2,4,5,4]),om,vW,wW,(by have h:=xW;omega)⟩)
  refine qO rfl<|cS (r17_of a0 ⟨(t0.pix.fl 6)⟩ z8.flat) fun _ an=>nA<|qF ?_ ?_
  rotate_left
  · exact qO rfl<|sBK an #[I 2] 3 fun bn _ fX=>nA<|qO rfl<|(by have L5:szP (⟨a0.w,a0.h,a0.max_⟩:Shape):=(by have h:=(plane_sz c0.2.2.1).1;unfold sizeP at h;simp only [Plane.v] at h;unfold szP;dsimp only;omega);have gX:=(fX.pick 4 rfl);refine cZ (tg_stage (ht.fl 7) om gX.flat1 0 (⟨a0.w,a0.h,a0.max_⟩:Shape) 1 ‹_› (by unfold numB;omega)) ?_;rintro _ _ ⟨cn,hX,rfl,iX,jX,kX,lX,_,mX⟩;exact nA<|qO rfl<|sBK mX.unflat2 (encStage cn).toArray 53 fun dn _ oX=>nA<|qV 1<|qO rfl<|sTk oX 5 rfl [.slice (At m1 0) 2 2, .slice (At dn 0) 1 1, .slice (At bn 0) 1 1,I 0] fun _ pX=>nA<|qN<|jXI 0 rfl<|⟨(cn,hX,lX,m1,s0,dn,bn),alB,(pX.picks [2,4,5,4]),om,iX,jX,(by have h:=kX;omega)⟩)
  refine qO rfl ?_
  have M5:szP (⟨a0.w,a0.h,a0.max_⟩:Shape):=by have h:=(plane_sz c0.2.2.1).1;unfold sizeP at h;simp only [Plane.v] at h;unfold szP;dsimp only;omega
  have rX:=(an.pick 3 rfl)
  refine cZ (tg_stage (ht.fl 6) om rX.flat1 0 (⟨a0.w,a0.h,a0.max_⟩:Shape) 1 ‹_› (by unfold numB;omega)) ?_
  rintro _ _ ⟨n6,en,rfl,gn,hn,jn,kn,_,sX⟩
  have ln:=sX.unflat2
  refine nA<|qF ?_ ?_
  rotate_left
  ·exact qO rfl<|sBK ln #[I 2] 3 fun mn _ tX=>nA<|qO rfl<|sBK tX (encStage n6).toArray 53 fun nn _ uX=>nA<|qV 1<|qO rfl<|sTk uX 5 rfl [.slice (At m1 0) 2 2, .slice (At nn 0) 1 1, .slice (At mn 0) 1 1,I 0] fun _ vX=>nA<|qN<|jXI 0 rfl<|⟨(n6,en,kn,m1,s0,nn,mn),alB,(vX.picks [3,4,5,5]),om,gn,hn,(by have h:=jn;omega)⟩
  exact qO rfl<|sBK ln (encStage n6).toArray 53 fun on _ xX=>nA<|qO rfl<|sBK xX #[I 2] 3 fun pn _ yX=>nA<|qV 1<|qO rfl<|sTk yX 5 rfl [.slice (At m1 0) 2 2, .slice (At on 0) 1 1, .slice (At pn 0) 1 1,I 0] fun _ zX=>nA<|qN<|jXI 0 rfl<|⟨(n6,en,kn,m1,s0,on,pn),alB,(zX.picks [1,3,4,5,5]),om,gn,hn,(by have h:=jn;omega)⟩
 ·refine qO rfl<|cS (r17_of a0 ⟨(t0.pix.fl 5)⟩ m6.flat) fun _ o6=>nZ o6 [4,1]<|qF3 ?_ ?_ ?_
  ·refine qO rfl<|sBK o6 #[I a0.w,I a0.h,I a0.max_, .slice a0.pix.a a0.pix.n a0.pix.k,I b0.w,I b0.h,I b0.max_, .slice b0.pix.a b0.pix.n b0.pix.k] 38 fun d3 _ qn=>nA<|qF ?_ ?_
   rotate_left
   · exact qO rfl<|sBK qn #[I 2] 3 fun rn _ bY=>nA<|qO rfl<|(by have N5:szP (⟨a0.w,a0.h,a0.max_⟩:Shape):=(by have h:=(plane_sz c0.2.2.1).1;unfold sizeP at h;simp only [Plane.v] at h;unfold szP;dsimp only;omega);have cY:=(bY.pick 4 rfl);refine cZ (tg_stage (ht.fl 7) om cY.flat1 0 (⟨a0.w,a0.h,a0.max_⟩:Shape) 1 ‹_› (by unfold numB;omega)) ?_;rintro _ _ ⟨sn,dY,rfl,eY,fY,hY,iY,_,jY⟩;exact nA<|qO rfl<|sBK jY.unflat2 (encStage sn).toArray 53 fun tn _ lY=>nA<|qV 1<|qO rfl<|sTk lY 5 rfl [.slice (At d3 0) 2 2, .slice (At tn 0) 1 1, .slice (At rn 0) 1 1,I 0] fun _ mY=>nA<|qN<|jXI 0 rfl<|⟨(sn,dY,iY,d3,s0,tn,rn),alB,(mY.picks [2,4,5,4]),om,eY,fY,(by have h:=hY;omega)⟩)
   refine qO rfl ?_
   have O5:szP (⟨a0.w,a0.h,a0.max_⟩:Shape):=by have h:=(plane_sz c0.2.2.1).1;unfold sizeP at h;simp only [Plane.v] at h;unfold szP;dsimp only;omega
   have oY:=(qn.pick 3 rfl)
   refine cZ (tg_stage (ht.fl 6) om oY.flat1 0 (⟨a0.w,a0.h,a0.max_⟩:Shape) 1 ‹_› (by unfold numB;omega)) ?_
   rintro _ _ ⟨p6,un,rfl,vn,wn,xn,yn,_,pY⟩
   have zn:=pY.unflat2
   refine nA<|qF ?_ ?_
   rotate_left
   ·exact qO rfl<|sBK zn #[I 2] 3 fun ao _ rY=>nA<|qO rfl<|sBK rY (encStage p6).toArray 53 fun bo _ sY=>nA<|qV 1<|qO rfl<|sTk sY 5 rfl [.slice (At d3 0) 2 2, .slice (At bo 0) 1 1, .slice (At ao 0) 1 1,I 0] fun _ tY=>nA<|qN<|jXI 0 rfl<|⟨(p6,un,yn,d3,s0,bo,ao),alB,(tY.picks [3,4,5,5]),om,vn,wn,(by have h:=xn;omega)⟩
   exact qO rfl<|sBK zn (encStage p6).toArray 53 fun co _ vY=>nA<|qO rfl<|sBK vY #[I 2] 3 fun eo _ xY=>nA<|qV 1<|qO rfl<|sTk xY 5 rfl [.slice (At d3 0) 2 2, .slice (At co 0) 1 1, .slice (At eo 0) 1 1,I 0] fun _ yY=>nA<|qN<|jXI 0 rfl<|⟨(p6,un,yn,d3,s0,co,eo),alB,(yY.picks [1,3,4,5,5]),om,vn,wn,(by have h:=xn;omega)⟩
  ·refine qO rfl ?_
   have P5:szP (⟨a0.w,a0.h,a0.max_⟩:Shape):=by have h:=(plane_sz c0.2.2.1).1;unfold sizeP at h;simp only [Plane.v] at h;unfold szP;dsimp only;omega
   have aZ:=(o6.pick 2 rfl)
   refine cZ (tg_stage (ht.fl 5) om aZ.flat1 0 (⟨a0.w,a0.h,a0.max_⟩:Shape) 1 ‹_› (by unfold numB;omega)) ?_
   rintro _ _ ⟨i1,e3,rfl,g3,h3,i3,j3,_,bZ⟩
   have q6:=bZ.unflat2
   refine nZ q6 [5,3]<|qF3 ?_ ?_ ?_
   ·refine qO rfl<|sBK q6 #[I a0.w,I a0.h,I a0.max_, .slice a0.pix.a a0.pix.n a0.pix.k,I b0.w,I b0.h,I b0.max_, .slice b0.pix.a b0.pix.n b0.pix.k] 38 fun r6 _ fo=>nA<|qF ?_ ?_
    rotate_left
    ·exact qO rfl<|sBK fo #[I 2] 3 fun go _ dZ=>nA<|qO rfl<|sBK dZ (encStage i1).toArray 53 fun ho _ eZ=>nA<|qV 1<|qO rfl<|sTk eZ 5 rfl [.slice (At r6 0) 2 2, .slice (At ho 0) 1 1, .slice (At go 0) 1 1,I 0] fun _ fZ=>nA<|qN<|jXI 0 rfl<|⟨(i1,e3,j3,r6,s0,ho,go),alB,(fZ.picks [4,3,5,5]),om,g3,h3,(by have h:=i3;omega)⟩
    exact qO rfl<|sBK fo (encStage i1).toArray 53 fun io _ hZ=>nA<|qO rfl<|sBK hZ #[I 2] 3 fun jo _ iZ=>nA<|qV 1<|qO rfl<|sTk iZ 5 rfl [.slice (At r6 0) 2 2, .slice (At io 0) 1 1, .slice (At jo 0) 1 1,I 0] fun _ jZ=>nA<|qN<|jXI 0 rfl<|⟨(i1,e3,j3,r6,s0,io,jo),alB,(jZ.picks [1,4,3,5,5]),om,g3,h3,(by have h:=i3;omega)⟩
   ·refine qO rfl<|sBK q6 (encStage i1).toArray 53 fun s6 _ a9=>nZ a9 [6,4]<|qF ?_ ?_
    ·exact qO rfl<|sBK a9 #[I a0.w,I a0.h,I a0.max_, .slice a0.pix.a a0.pix.n a0.pix.k,I b0.w,I b0.h,I b0.max_, .slice b0.pix.a b0.pix.n b0.pix.k] 38 fun ko _ lZ=>nA<|qO rfl<|sBK lZ #[I 2] 3 fun lo _ mZ=>nA<|qV 1<|qO rfl<|sTk mZ 5 rfl [.slice (At ko 0) 2 2, .slice (At s6 0) 1 1, .slice (At lo 0) 1 1,I 0] fun _ oZ=>nA<|qN<|jXI 0 rfl<|⟨(i1,e3,j3,ko,s0,s6,lo),alB,(oZ.picks [2,4,3,5,5]),om,g3,h3,(by have h:=i3;omega)⟩
    exact qO rfl<|sBK a9 #[I 2] 3 fun mo _ no=>nZ no [7,5]<|qO rfl<|sBK no #[I a0.w,I a0.h,I a0.max_, .slice a0.pix.a a0.pix.n a0.pix.k,I b0.w,I b0.h,I b0.max_, .slice b0.pix.a b0.pix.n b0.pix.k] 38 fun oo _ qZ=>nA<|qV 1<|qO rfl<|sTk qZ 5 rfl [.slice (At oo 0) 2 2, .slice (At s6 0) 1 1, .slice (At mo 0) 1 1,I 0] fun _ rZ=>nA<|qN<|jXI 0 rfl<|⟨(i1,e3,j3,oo,s0,s6,mo),alB,(rZ.picks [2,4,2,5,5]),om,g3,h3,(by have h:=i3;omega)⟩
   refine qO rfl<|sBK q6 #[I 2] 3 fun t6 _ b9=>nZ b9 [6,4]<|qF ?_ ?_
   ·exact qO rfl<|sBK b9 #[I a0.w,I a0.h,I a0.max_, .slice a0.pix.a a0.pix.n a0.pix.k,I b0.w,I b0.h,I b0.max_, .slice b0.pix.a b0.pix.n b0.pix.k] 38 fun po _ tZ=>nA<|qO rfl<|sBK tZ (encStage i1).toArray 53 fun qo _ uZ=>nA<|qV 1<|qO rfl<|sTk uZ 5 rfl [.slice (At po 0) 2 2, .slice (At qo 0) 1 1, .slice (At t6 0) 1 1,I 0] fun _ vZ=>nA<|qN<|jXI 0 rfl<|⟨(i1,e3,j3,po,s0,qo,t6),alB,(vZ.picks [4,2,5,5]),om,g3,h3,(by have h:=i3;omega)⟩
   exact qO rfl<|sBK b9 (encStage i1).toArray 53 fun ro _ so=>nZ so [7,5]<|qO rfl<|sBK so #[I a0.w,I a0.h,I a0.max_, .slice a0.pix.a a0.pix.n a0.pix.k,I b0.w,I b0.h,I b0.max_, .slice b0.pix.a b0.pix.n b0.pix.k] 38 fun uo _ xZ=>nA<|qV 1<|qO rfl<|sTk xZ 5 rfl [.slice (At uo 0) 2 2, .slice (At ro 0) 1 1, .slice (At t6 0) 1 1,I 0] fun _ yZ=>nA<|qN<|jXI 0 rfl<|⟨(i1,e3,j3,uo,s0,ro,t6),alB,(yZ.picks [4,1,5,5]),om,g3,h3,(by have h:=i3;omega)⟩
  refine qO rfl<|sBK o6 #[I 2] 3 fun k3 _ c9=>nZ c9 [5,2]<|qF ?_ ?_
  · exact qO rfl<|sBK c9 #[I a0.w,I a0.h,I a0.max_, .slice a0.pix.a a0.pix.n a0.pix.k,I b0.w,I b0.h,I b0.max_, .slice b0.pix.a b0.pix.n b0.pix.k] 38 fun vo _ S1=>nA<|qO rfl<|(by have Q5:szP (⟨a0.w,a0.h,a0.max_⟩:Shape):=(by have h:=(plane_sz c0.2.2.1).1;unfold sizeP at h;simp only [Plane.v] at h;unfold szP;dsimp only;omega);have T1:=(S1.pick 4 rfl);refine cZ (tg_stage (ht.fl 7) om T1.flat1 0 (⟨a0.w,a0.h,a0.max_⟩:Shape) 1 ‹_› (by unfold numB;omega)) ?_;rintro _ _ ⟨wo,a02,rfl,a03,a04,a05,a06,_,a07⟩;exact nA<|qO rfl<|sBK a07.unflat2 (encStage wo).toArray 53 fun xo _ U1=>nA<|qV 1<|qO rfl<|sTk U1 5 rfl [.slice (At vo 0) 2 2, .slice (At xo 0) 1 1, .slice (At k3 0) 1 1,I 0] fun _ V1=>nA<|qN<|jXI 0 rfl<|⟨(wo,a02,a06,vo,s0,xo,k3),alB,(V1.picks [2,3,5,4]),om,a03,a04,(by have h:=a05;omega)⟩)
  refine qO rfl ?_
  have R5:szP (⟨a0.w,a0.h,a0.max_⟩:Shape):=by have h:=(plane_sz c0.2.2.1).1;unfold sizeP at h;simp only [Plane.v] at h;unfold szP;dsimp only;omega
  have W1:=(c9.pick 3 rfl)
  refine cZ (tg_stage (ht.fl 6) om W1.flat1 0 (⟨a0.w,a0.h,a0.max_⟩:Shape) 1 ‹_› (by unfold numB;omega)) ?_
  rintro _ _ ⟨u6,yo,rfl,zo,ap,bp,cp,_,X1⟩
  have d9:=X1.unflat2
  refine nZ d9 [6,4]<|qF ?_ ?_
  ·exact qO rfl<|sBK d9 #[I a0.w,I a0.h,I a0.max_, .slice a0.pix.a a0.pix.n a0.pix.k,I b0.w,I b0.h,I b0.max_, .slice b0.pix.a b0.pix.n b0.pix.k] 38 fun dp _ Y1=>nA<|qO rfl<|sBK Y1 (encStage u6).toArray 53 fun ep _ Z1=>nA<|qV 1<|qO rfl<|sTk Z1 5 rfl [.slice (At dp 0) 2 2, .slice (At ep 0) 1 1, .slice (At k3 0) 1 1,I 0] fun _ A2=>nA<|qN<|jXI 0 rfl<|⟨(u6,yo,cp,dp,s0,ep,k3),alB,(A2.picks [3,2,5,4]),om,zo,ap,(by have h:=bp;omega)⟩
  exact qO rfl<|sBK d9 (encStage u6).toArray 53 fun gp _ hp=>nZ hp [7,5]<|qO rfl<|sBK hp #[I a0.w,I a0.h,I a0.max_, .slice a0.pix.a a0.pix.n a0.pix.k,I b0.w,I b0.h,I b0.max_, .slice b0.pix.a b0.pix.n b0.pix.k] 38 fun ip _ B2=>nA<|qV 1<|qO rfl<|sTk B2 5 rfl [.slice (At ip 0) 2 2, .slice (At gp 0) 1 1, .slice (At k3 0) 1 1,I 0] fun _ C2=>nA<|qN<|jXI 0 rfl<|⟨(u6,yo,cp,ip,s0,gp,k3),alB,(C2.picks [3,1,5,4]),om,zo,ap,(by have h:=bp;omega)⟩
 refine qO rfl<|sBK m6 #[I 2] 3 fun n1 _ e9=>nZ e9 [5,2,5]<|qF ?_ ?_
 · exact qO rfl<|sBK e9 #[I a0.w,I a0.h,I a0.max_, .slice a0.pix.a a0.pix.n a0.pix.k,I b0.w,I b0.h,I b0.max_, .slice b0.pix.a b0.pix.n b0.pix.k] 38 fun jp _ kp=>nZ kp [6]<|qO rfl<|cS (r17_of a0 ⟨(t0.pix.fl 7)⟩ kp.flat) fun _ D2=>nA<|qO rfl<|(by have S5:szP (⟨a0.w,a0.h,a0.max_⟩:Shape):=(by have h:=(plane_sz c0.2.2.1).1;unfold sizeP at h;simp only [Plane.v] at h;unfold szP;dsimp only;omega);have E2:=(D2.pick 4 rfl);refine cZ (tg_stage (ht.fl 7) om E2.flat1 0 (⟨a0.w,a0.h,a0.max_⟩:Shape) 1 ‹_› (by unfold numB;omega)) ?_;rintro _ _ ⟨lp,a0n,rfl,a0o,a0p,a0q,a0r,_,a0s⟩;exact nA<|qO rfl<|sBK a0s.unflat2 (encStage lp).toArray 53 fun mp _ F2=>nA<|qV 1<|qO rfl<|sTk F2 5 rfl [.slice (At jp 0) 2 2, .slice (At mp 0) 1 1, .slice (At n1 0) 1 1,I 0] fun _ G2=>nA<|qN<|jXI 0 rfl<|⟨(lp,a0n,a0r,jp,s0,mp,n1),alB,(G2.picks [2,3,5,4]),om,a0o,a0p,(by have h:=a0q;omega)⟩)
 refine qO rfl<|cS (r17_of a0 ⟨(t0.pix.fl 6)⟩ e9.flat) fun _ f9=>nZ f9 [5,2]<|qF ?_ ?_
 · exact qO rfl<|sBK f9 #[I a0.w,I a0.h,I a0.max_, .slice a0.pix.a a0.pix.n a0.pix.k,I b0.w,I b0.h,I b0.max_, .slice b0.pix.a b0.pix.n b0.pix.k] 38 fun np _ H2=>nA<|qO rfl<|(by have T5:szP (⟨a0.w,a0.h,a0.max_⟩:Shape):=(by have h:=(plane_sz c0.2.2.1).1;unfold sizeP at h;simp only [Plane.v] at h;unfold szP;dsimp only;omega);have I2:=(H2.pick 4 rfl);refine cZ (tg_stage (ht.fl 7) om I2.flat1 0 (⟨a0.w,a0.h,a0.max_⟩:Shape) 1 ‹_› (by unfold numB;omega)) ?_;rintro _ _ ⟨op,a0z,rfl,a10,a11,a12,a13,_,a14⟩;exact nA<|qO rfl<|sBK a14.unflat2 (encStage op).toArray 53 fun pp _ J2=>nA<|qV 1<|qO rfl<|sTk J2 5 rfl [.slice (At np 0) 2 2, .slice (At pp 0) 1 1, .slice (At n1 0) 1 1,I 0] fun _ K2=>nA<|qN<|jXI 0 rfl<|⟨(op,a0z,a13,np,s0,pp,n1),alB,(K2.picks [2,3,5,4]),om,a10,a11,(by have h:=a12;omega)⟩)
 refine qO rfl ?_
 have U5:szP (⟨a0.w,a0.h,a0.max_⟩:Shape):=by have h:=(plane_sz c0.2.2.1).1;unfold sizeP at h;simp only [Plane.v] at h;unfold szP;dsimp only;omega
 have L2:=(f9.pick 3 rfl)
 refine cZ (tg_stage (ht.fl 6) om L2.flat1 0 (⟨a0.w,a0.h,a0.max_⟩:Shape) 1 ‹_› (by unfold numB;omega)) ?_
 rintro _ _ ⟨v6,qp,rfl,rp,tp,vp,wp,_,M2⟩
 have g9:=M2.unflat2
 refine nZ g9 [6,4]<|qF ?_ ?_
 ·exact qO rfl<|sBK g9 #[I a0.w,I a0.h,I a0.max_, .slice a0.pix.a a0.pix.n a0.pix.k,I b0.w,I b0.h,I b0.max_, .slice b0.pix.a b0.pix.n b0.pix.k] 38 fun xp _ N2=>nA<|qO rfl<|sBK N2 (encStage v6).toArray 53 fun yp _ O2=>nA<|qV 1<|qO rfl<|sTk O2 5 rfl [.slice (At xp 0) 2 2, .slice (At yp 0) 1 1, .slice (At n1 0) 1 1,I 0] fun _ P2=>nA<|qN<|jXI 0 rfl<|⟨(v6,qp,wp,xp,s0,yp,n1),alB,(P2.picks [3,2,5,4]),om,rp,tp,(by have h:=vp;omega)⟩
 exact qO rfl<|sBK g9 (encStage v6).toArray 53 fun zp _ aq=>nZ aq [7,5]<|qO rfl<|sBK aq #[I a0.w,I a0.h,I a0.max_, .slice a0.pix.a a0.pix.n a0.pix.k,I b0.w,I b0.h,I b0.max_, .slice b0.pix.a b0.pix.n b0.pix.k] 38 fun cq _ Q2=>nA<|qV 1<|qO rfl<|sTk Q2 5 rfl [.slice (At cq 0) 2 2, .slice (At zp 0) 1 1, .slice (At n1 0) 1 1,I 0] fun _ R2=>nA<|qN<|jXI 0 rfl<|⟨(v6,qp,wp,cq,s0,zp,n1),alB,(R2.picks [3,1,5,4]),om,rp,tp,(by have h:=vp;omega)⟩
end Go.Proofs.YtghcddbhllkbmaaGreat
