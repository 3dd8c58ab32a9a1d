import Derived.WalkKit
import Derived.Deep.Quiet
import Derived.KernelRfl
import Derived.Laws.BytesString
import Derived.Laws.Shifts
import Derived.Laws.IdiomStrings
import Derived.OpenShut
import Derived.Laws.IdiomRangeMap
import Derived.Test.YtghcddbhllkbmaaGreatProg
import Derived.Test.YtghcddbhllkbmaaGreatR3P3Graph
namespace Go.E
set_option linter.unusedVariables false
set_option linter.unusedSimpArgs false
theorem flatMap_dropT {α:Type} {enc:α->List Value} {sz:Nat} (he:∀x,(enc x).length=sz):∀(xs:List α) (i:Nat),(xs.flatMap enc).drop (i*sz)=(xs.drop i).flatMap enc
  |xs,0=>by simp
  |[],i+1=>by simp
  |x::xs,i+1=>by
    rw [List.flatMap_cons,List.drop_succ_cons,<-flatMap_dropT he xs i,show (i+1)*sz=(enc x).length+i*sz by rw [he,Nat.add_mul];omega,List.drop_append]
    rw [List.drop_eq_nil_of_le (by omega)]
    simp
section
variable {P:Program} {n:Nat} {ρ:Env} {W w:World} {cs:List Chunk} {ops:Array Oper} {rest:List Oper} {N:Env->World->Prop} {o:Oper}
theorem sCopyR {α:Type} {enc:α->List Value} {E sz:Nat} {a a' a2:Option Addr} {m cap d cap' n2 k2:Nat} {xs ys:List α} {c:Chunk} (hS:Sat W w cs) (hO:OwnT enc E sz a m cap xs c) (hR:RdT enc sz cs a2 n2 k2 ys) (j lo k:Nat) (hlo:lo+d<=m) (hk:Nat.min n2 d=k) (ha:a'=partAddr a cap lo sz)
    {t:TypeId} {args:Array Operand} {ats:Array TypeId} {x y:Operand} (hu:∀w,(underlying t).run P w= .ok (.slice E) w) (hsz:∀w,(sizeOf E).run P w= .ok sz w) (hone:∀z,∀v∈enc z,v.oneCell'=true)
    (h:∀w' c',OwnT enc E sz a m cap (xs.take lo++ys.take k++xs.drop (lo+k)) c'->Sat W w' (cs.set j c')->OpsE P n ops rest N (put ρ o.dst (.int .i64 (k:Nat))) w')
    (ho:o.op= .call {callee:= .builtin .copy,args:=args,argTypes:=ats}:=by rfl) (hargs:args=#[x,y]:=by rfl) (hats:ats=#[t,t]:=by rfl) (hg:o.guard=none:=by rfl) (hd:dstOK n o.dst=true:=by rfl) (hj:cs[j]?=some c:=by rfl)
    (hx:ev ρ x= .slice a' d cap':=by kernel_rfl) (hy:ev ρ y= .slice a2 n2 k2:=by kernel_rfl):OpsE P n ops (o::rest) N ρ w:=by
  subst hargs;subst hats
  have hnxt:∀w' c',OwnT enc E sz a m cap (xs.take lo++ys.take k++xs.drop (lo+k)) c'->Sat W w' (cs.set j c')->(execOp (ev ρ) o).run P w= .ok (.value (.int .i64 (k:Nat))) w'->OpsE P n ops (o::rest) N ρ w:=fun w' c' hO' hS' hr=>
    stepRun hg hd hr (h w' c' hO' hS')
  have hk1:k<=n2:=hk▸Nat.min_le_left _ _
  have hk2:k<=d:=hk▸Nat.min_le_right _ _
  by_cases h0:k=0
  · subst h0
    refine hnxt w c ?_ (hS.set j hj (fun h=>h)) ?_
    · rw [List.take_zero,List.append_nil,Nat.add_zero,List.take_append_drop];exact hO
    · have hf:∀b,(Builtin.firstCells sz 0 (.slice b n2 k2)).run P w= .ok #[] w:=by
        intro b
        cases b with
        |none=>exact run_firstCells_none w _ _ _ _
        |some p=>exact run_firstCells_some (P:=P) w sz 0 p _ _ [] (by simp) (by simp)
      unfold execOp
      rw [ho]
      simp only [resolve,invoke,builtin,List.map_toArray,List.map_cons,List.map_nil,hx,hy]
      cases a'<;>simp [Builtin.copy_,hu,hsz,Builtin.lenOf,hk,hf,goInt,storeCells]
  · obtain ⟨hl,he,hlen,hr⟩:=hO
    rcases hr with ⟨_,rfl,_⟩|⟨b,off,cur,rfl,rfl,hn,hcm,hf,ht⟩
    · omega
    · have hne:¬cap=lo:=by omega
      have hms:m*sz<=cap*sz:=Nat.mul_le_mul_right _ hn
      have hls:(lo+k)*sz<=m*sz:=Nat.mul_le_mul_right _ (by omega)
      have hlk:(lo+k)*sz=lo*sz+k*sz:=Nat.add_mul ..
      have hyl:(ys.take k).length=k:=by rw [List.length_take,hR.1];omega
      have hvl:((ys.take k).flatMap enc).length=k*sz:=by rw [flatMap_len he,hyl]
      obtain ⟨_,_,_,hp⟩:=hR.2.2
      rcases hp with hp|⟨b2,o2,rfl,hp⟩
      · omega
      have hfc:=run_firstCells_some (P:=P) w sz k ⟨b2,o2,none⟩ n2 k2 ((ys.take k).flatMap enc) hvl (fun i v hv=>by
        rw [add_off]
        refine hp.cell hS ?_
        rw [<-flatMap_take he,List.getElem?_take] at hv
        split at hv
        · exact hv
        · cases hv)
      have hall:∀u∈(ys.take k).flatMap enc,u.oneCell'=true:=by
        intro u hu'
        obtain ⟨z,_,hz⟩:=List.mem_flatMap.1 hu'
        exact hone z u hz
      have hst:=run_storeCells_at P b (off+lo*sz) E ((ys.take k).flatMap enc) 0 cur w (hS.at j hj) (by simp only [Nat.add_zero,hvl];omega) hall
      simp only [Nat.add_zero] at hst
      simp only [partAddr,if_neg hne,Option.map_some,add_off] at ha
      refine hnxt (w.setRow b (wr cur (off+lo*sz) ((ys.take k).flatMap enc))) [(b, .cells (wr cur (off+lo*sz) ((ys.take k).flatMap enc)) E (0,0))] ?_ (hS.rowAt j hj _) ?_
      · have hxl:(xs.take lo++ys.take k++xs.drop (lo+k)).length=m:=by rw [List.length_append,List.length_append,hyl,List.length_take,List.length_drop];omega
        refine ⟨hxl,he,?_⟩
        refine ⟨by rw [flatMap_len he,hxl], .inr ⟨b,off,_,rfl,rfl,hn,hcm,by rw [size_wr (by rw [hvl];omega)];exact hf,?_⟩⟩
        rw [wr_own (by omega) (by rw [hvl];omega),ht,List.flatMap_append,List.flatMap_append,show (xs.take lo).flatMap enc=(xs.flatMap enc).take (lo*sz) from (flatMap_take he ..).symm,show (xs.drop (lo+k)).flatMap enc=(xs.flatMap enc).drop ((lo+k)*sz) from (flatMap_dropT he ..).symm]
        simp only [wrL,hvl,hlk]
        try simp
      · unfold execOp
        rw [ho]
        simp only [resolve,invoke,builtin,List.map_toArray,List.map_cons,List.map_nil,hx,hy,ha]
        simp [Builtin.copy_,hu,hsz,Builtin.lenOf,hk,hfc,hst,goInt,wr]
end
end Go.E
namespace Go.E
section
variable {P:Program} {n:Nat} {ρ:Env} {W w:World} {cs:List Chunk} {ops:Array Oper} {rest:List Oper} {N:Env->World->Prop} {o:Oper}
theorem run_getM {b:Nat} {es:Array MapEntry} {k:Nat} (h:w.heap[b]?=some (.map es k)):(getObj b).run P w= .ok (.map es k) w:=by simp [getObj,Sem.run,h]
theorem run_setM {b:Nat} {es:Array MapEntry} {k:Nat} (ob:Obj) (h:w.heap[b]?=some (.map es k)):(setObj b ob).run P w= .ok () {w with heap:=w.heap.setIfInBounds b ob}:=by simp [setObj,Sem.run,h]
end
end Go.E
namespace Go.E
def keyI (k:Int):Value:= .int .i64 k
def kvE (e:MapEntry):Value×Value:=(e.key,e.val)
def kvQ (q:Int×Value):Value×Value:=(keyI q.1,q.2)
def MapI (b:Nat) (ks:List (Int×Value)) (c:Chunk):Prop:=∃(es:Array MapEntry) (clock:Nat),c=[(b, .map es clock)]/\es.toList.map kvE=ks.map kvQ/\(es.toList.map (·.born)).Nodup/\∀e∈es.toList,e.born<clock
def iget (ks:List (Int×Value)) (k:Int):Option Value:=(ks.find? fun q=>q.1==k).map (·.2)
theorem find_int {kd:IntKind} (k:Int):∀(es:List MapEntry) (ks:List (Int×Value)) (i:Nat),es.map kvE=ks.map kvQ->∃r,Instr.findNow (.int kd) (.int .i64 k) es i=some r/\r.map (·.2)=iget ks k
  |[],ks,i,h=>by
    have:ks=[]:=by cases ks with|nil=>rfl|cons=>simp at h
    subst this;exact ⟨none,rfl,rfl⟩
  |e::es,ks,i,h=>by
    cases ks with
    |nil=>simp at h
    |cons q ks=>
      simp only [List.map_cons,List.cons.injEq] at h
      obtain ⟨h1,h2⟩:=h
      have hk:e.key= .int .i64 q.1:=congrArg Prod.fst h1
      have hv:e.val=q.2:=congrArg Prod.snd h1
      unfold Instr.findNow
      rw [hk]
      by_cases e1:k=q.1
      · subst e1
        refine ⟨some (i,e.val),by simp [Instr.sameNow],?_⟩
        simp [iget,hv]
      · obtain ⟨r,hr,hr2⟩:=find_int k es ks (i+1) h2
        have e2:(k==q.1)=false:=by simpa using e1
        have e3:(q.1==k)=false:=by simpa using fun h=>e1 h.symm
        refine ⟨r,by simp only [Instr.sameNow,if_true,e2];exact hr,?_⟩
        rw [hr2];unfold iget;rw [List.find?_cons,e3]
section
variable {P:Program} {n:Nat} {ρ:Env} {W w:World} {cs:List Chunk} {ops:Array Oper} {rest:List Oper} {N:Env->World->Prop} {o:Oper}
theorem run_findI {K:TypeId} {kd:IntKind} (hK:∀w,(underlying K).run P w= .ok (.int kd) w) (k:Int) (es:List MapEntry) (ks:List (Int×Value)) (h:es.map kvE=ks.map kvQ):
    ∃r,(Instr.findKey K (keyI k) es).run P w= .ok r w/\r.map (·.2)=iget ks k:=by
  obtain ⟨r,h1,h2⟩:=find_int (kd:=kd) k es ks 0 h
  refine ⟨r,?_,h2⟩
  unfold Instr.findKey
  simp only [Sem.run_bind,hK,Result.andThen]
  unfold keyI
  rw [h1];rfl
theorem run_checkI {K:TypeId} {kd:IntKind} (hK:∀w,(underlying K).run P w= .ok (.int kd) w) (b:Bool) (k:Int):(Instr.checkKey b 10000 K (keyI k)).run P w= .ok () w:=by
  rw [show (10000:Nat)=9999+1 from rfl]
  unfold Instr.checkKey
  simp only [Sem.run_bind,hK,Result.andThen,keyI]
  rfl
theorem Sat.objAt {b:Nat} {o1:Obj} (h:Sat W w cs) (i:Nat) (hi:cs[i]?=some [(b,o1)]) (ob:Obj):Sat W {w with heap:=w.heap.setIfInBounds b ob} (cs.set i [(b,ob)]):=by
  refine h.set i hi fun h=>⟨h.os,h.tape,h.output,?_,?_⟩
  · have:=h.nd
    simp only [List.flatten_cons,List.singleton_append,List.map_cons] at this⊢
    exact this
  · intro p hp
    simp only [List.flatten_cons,List.singleton_append,List.mem_cons] at hp
    have hb:=h.heap (b:=b) (o:=o1) (by simp)
    rcases hp with rfl|hp
    · show (w.heap.setIfInBounds b ob)[b]?=some ob
      have hl:=(Array.getElem?_eq_some_iff.1 hb).1
      simp [hl]
    · have hn:=h.nd
      simp only [List.flatten_cons,List.singleton_append,List.map_cons,List.nodup_cons] at hn
      have hne:p.1≠b:=fun e=>hn.1 (List.mem_map.2 ⟨p,hp,e⟩)
      show (w.heap.setIfInBounds b ob)[p.1]?=some p.2
      rw [Array.getElem?_setIfInBounds_ne (fun e=>hne e.symm)]
      exact h.all p (by simp only [List.flatten_cons,List.singleton_append,List.mem_cons];exact .inr hp)
theorem Y_iget {t K E:TypeId} {kd:IntKind} {x ix:Operand} {b:Nat} {ks:List (Int×Value)} {c:Chunk} {k:Int} {z v:Value} (hS:Sat W w cs) (j:Nat) (hM:MapI b ks c) (hv:(iget ks k).getD z=v)
    (hu:∀w,(underlying t).run P w= .ok (.map K E) w) (hK:∀w,(underlying K).run P w= .ok (.int kd) w) (hz:∀w,(zeroValue E).run P w= .ok z w) (hj:cs[j]?=some c:=by rfl)
    (ho:o.op= .lookup t x ix false:=by rfl) (hx:ev ρ x= .map (some b):=by kernel_rfl) (hi:ev ρ ix= .int .i64 k:=by kernel_rfl):Yields P ρ o v w:=by
  obtain ⟨es,clock,rfl,hk,_,_⟩:=hM
  have hb:=hS.at j hj
  obtain ⟨r,hr,hr2⟩:=run_findI (w:=w) hK k es.toList ks hk
  have hck:=run_checkI (w:=w) hK es.isEmpty k
  have hi2:ev ρ ix=keyI k:=hi
  unfold Yields execOp
  rw [ho]
  simp only [Instr.lookup,hx,hi2,Sem.run_bind,hu,Result.andThen,run_getM hb,hck,hr,Sem.run_pure]
  rw [<-hr2] at hv
  cases r with
  |none=>simp at hv;subst hv;simp [hz]
  |some q=>simp at hv;subst hv;simp
theorem sIAdd {t K E:TypeId} {kd:IntKind} {x ix y:Operand} {b:Nat} {ks:List (Int×Value)} {c:Chunk} {k:Int} {v:Value} (hS:Sat W w cs) (j:Nat) (hM:MapI b ks c) (hno:iget ks k=none)
    (hu:∀w,(underlying t).run P w= .ok (.map K E) w) (hK:∀w,(underlying K).run P w= .ok (.int kd) w) (h:∀c' w',MapI b (ks++[(k,v)]) c'->Sat W w' (cs.set j c')->OpsE P n ops rest N ρ w') (hj:cs[j]?=some c:=by rfl)
    (ho:o.op= .mapUpdate t x ix y:=by rfl) (hg:o.guard=none:=by rfl) (hd:o.dst=none:=by rfl) (hx:ev ρ x= .map (some b):=by kernel_rfl) (hi:ev ρ ix= .int .i64 k:=by kernel_rfl) (hy:ev ρ y=v:=by kernel_rfl):OpsE P n ops (o::rest) N ρ w:=by
  obtain ⟨es,clock,rfl,hk,hn,hb2⟩:=hM
  have hb:=hS.at j hj
  obtain ⟨r,hr,hr2⟩:=run_findI (w:=w) hK k es.toList ks hk
  have hck:=run_checkI (w:=w) hK false k
  have hi2:ev ρ ix=keyI k:=hi
  rw [hno] at hr2
  obtain rfl:r=none:=by cases r with|none=>rfl|some=>cases hr2
  refine stepSkip (w':={w with heap:=w.heap.setIfInBounds b (.map (es.push {key:=keyI k,val:=v,born:=clock}) (clock+1))}) hg (by rw [hd];rfl) ?_ ?_
  · unfold execOp
    rw [ho]
    simp [Instr.mapUpdate,hx,hi2,hy,hu,run_getM hb,hck,hr,run_setM _ hb]
  · rw [hd]
    refine h [(b, .map (es.push {key:=keyI k,val:=v,born:=clock}) (clock+1))] _ ⟨_,_,rfl,?_,?_,?_⟩ (hS.objAt j hj _)
    · rw [Array.toList_push,List.map_append,List.map_append,hk];rfl
    · rw [Array.toList_push,List.map_append,List.nodup_append]
      refine ⟨hn,by simp,?_⟩
      intro a ha b' hb'
      obtain ⟨e,he,rfl⟩:=List.mem_map.1 ha
      obtain rfl:b'=clock:=by simpa using hb'
      have:=hb2 e he;omega
    · intro e he
      simp only [Array.toList_push,List.mem_append,List.mem_singleton] at he
      rcases he with he|rfl
      · have:=hb2 e he;omega
      · show clock<clock+1;omega
theorem sMakeMapI {t:TypeId} (hS:Sat W w cs) (h:∀b c w',MapI b [] c->Sat W w' (c::cs)->OpsE P n ops rest N (put ρ o.dst (.map (some b))) w')
    (ho:o.op= .makeMap t none:=by rfl) (hg:o.guard=none:=by rfl) (hd:dstOK n o.dst=true:=by rfl):OpsE P n ops (o::rest) N ρ w:=by
  refine stepRun (v:= .map (some w.heap.size)) (w':=w.alloc (.map #[] 0)) hg hd ?_ (h _ [(w.heap.size, .map #[] 0)] _ ⟨#[],0,rfl,rfl,by simp,by simp⟩ (hS.alloc _))
  unfold execOp
  rw [ho]
  simp [Instr.makeMap]
def RngI (it b:Nat) (ks rest:List (Int×Value)) (lst:Option (Int×Value)) (cm ci:Chunk):Prop:=∃(es:Array MapEntry) (clock:Nat) (seen:Array Nat),cm=[(b, .map es clock)]/\es.toList.map kvE=ks.map kvQ/\(es.toList.map (·.born)).Nodup/\(∀e∈es.toList,e.born<clock)/\
  ci=[(it, .mapIter (some b) clock seen clock)]/\(leftOf es seen).toList.map kvE=rest.map kvQ/\∀q,lst=some q->∃e∈es.toList,kvE e=kvQ q/\seen.back?=some e.born
theorem RngI.map {it b:Nat} {ks rest:List (Int×Value)} {lst:Option (Int×Value)} {cm ci:Chunk} (h:RngI it b ks rest lst cm ci):MapI b ks cm:=by
  obtain ⟨es,clock,seen,h1,h2,h3,h4,_⟩:=h;exact ⟨es,clock,h1,h2,h3,h4⟩
end
end Go.E

namespace Go.E
section
variable {P:Program} {ρ:Env} {w:World} {o:Oper}
theorem Y_shrS {t u:TypeId} {x y:Operand} {k':IntKind} (a s:Int) (ho:o.op= .binOp .shr t x y u) (hx:ev ρ x= .int .i64 a) (hy:ev ρ y= .int k' s) (hs:0<=s/\s<=60):
    Yields P ρ o (.int .i64 (a/2^s.toNat)) w:=by
  have h1:min s.toNat IntKind.i64.bits=s.toNat:=by simp [IntKind.bits];omega
  exact Y_shr .i64 k' a s _ ho hx hy hs.1 (by rw [h1])
end
end Go.E
namespace Go.E
def encKB (x:Bool):List Value:=[.bool x]
end Go.E

namespace Go.Proofs.YtghcddbhllkbmaaGreat
open Go Go.E Go.Proofs.Tryz
set_option linter.all false
set_option maxRecDepth 100000
set_option maxHeartbeats 2000000
variable {W w:World} {H:Chunk} {F:List Chunk}
theorem p1_mul (a:Int) (b:Int) (l:Int) (hl:l<=4611686018427387904) (hS:Sat W w (H::F)):
  Ro prog 139 #[I a,I b,I l] (.tuple #[I (mulV a b l), .bool (mulOK a b l)]) W w (H::F):=by
 refine callsK 30 func139 rfl<|jCO 12 rfl<|sD 10 (a<0) (fun a0=>jOR 18 rfl<|retT [I 0, .bool false]<|(by obtain ⟨e1,e2⟩:=mul_f (a:=a) (b:=b) (l:=l) (by first|omega|(have:=mul_gt_of (a:=a) (b:=b) (l:=l) om om om;omega));exact ⟨by rw [e1,e2];rfl,hS⟩)) fun a0=>pu4<|sD 14 (b<0) (fun b0=>jOR 14 rfl<|retT [I 0, .bool false]<|(by obtain ⟨e1,e2⟩:=mul_f (a:=a) (b:=b) (l:=l) (by first|omega|(have:=mul_gt_of (a:=a) (b:=b) (l:=l) om om om;omega));exact ⟨by rw [e1,e2];rfl,hS⟩)) fun b0=>jOC 5 rfl<|cD (l<0) (fun c0=>jCR 8 rfl<|retT [I 0, .bool false]<|(by obtain ⟨e1,e2⟩:=mul_f (a:=a) (b:=b) (l:=l) (by first|omega|(have:=mul_gt_of (a:=a) (b:=b) (l:=l) om om om;omega));exact ⟨by rw [e1,e2];rfl,hS⟩)) fun c0=>jCO 8 rfl<|SD 20 (b>0) (fun d0=>jOC 12 rfl<|(by have hm:=mul_le_of (a:=a) (b:=b) (l:=l) om om om om;refine jCO 3 rfl<|sMul a b<|jOR 5 rfl<|retT [I (a*b), .bool true] ?_;obtain ⟨e1,e2⟩:=mul_t (a:=a) (b:=b) (l:=l) om;exact ⟨by rw [e1,e2];rfl,hS⟩)) fun d0=>?_
 refine pu3<|gY<|sQuo l b<|jOC 4 rfl<|cD (a>(l.tdiv b)) (fun e0=>jCR 8 rfl<|retT [I 0, .bool false]<|(by obtain ⟨e1,e2⟩:=mul_f (a:=a) (b:=b) (l:=l) (by first|omega|(have:=mul_gt_of (a:=a) (b:=b) (l:=l) om om om;omega));exact ⟨by rw [e1,e2];rfl,hS⟩)) fun e0=>jCC 3 rfl ?_
 have hm:=mul_le_of (a:=a) (b:=b) (l:=l) om om om om
 refine jCO 3 rfl<|sMul a b<|jOR 5 rfl<|retT [I (a*b), .bool true] ?_
 obtain ⟨e1,e2⟩:=mul_t (a:=a) (b:=b) (l:=l) om
 exact ⟨by rw [e1,e2];rfl,hS⟩
def areaOK (w h m:Int):Bool:=decide (sizeP w h m)
def areaV (w h m:Int):Int:=if areaOK w h m=true then w*h else 0
theorem area_eq {w h m:Int} (h1:1<=w/\w<=128) (h2:1<=h/\h<=128) (h3:1<=m/\m<=4294967296):areaOK w h m=mulOK w h 4096/\areaV w h m=mulV w h 4096:=by
  have e:areaOK w h m=mulOK w h 4096:=(by unfold areaOK mulOK;exact decide_eq_decide.2 (by unfold sizeP;omega))
  exact ⟨e,(by unfold areaV mulV;rw [e])⟩
theorem area_no {w h m:Int} (h1:¬((1<=w/\w<=128)/\(1<=h/\h<=128)/\1<=m/\m<=4294967296)):areaOK w h m=false/\areaV w h m=0:=by
  have e:areaOK w h m=false:=decide_eq_false (by unfold sizeP;omega)
  exact ⟨e,(by unfold areaV;rw [e];rfl)⟩
theorem p4_area (w0:Int) (h0:Int) (m0:Int) (hS:Sat W w (H::F)):
  Ro prog 94 #[I w0,I h0,I m0] (.tuple #[I (areaV w0 h0 m0), .bool (areaOK w0 h0 m0)]) W w (H::F):=by
 refine callsK 35 func94 rfl<|jCO 12 rfl<|sD 10 (w0<1) (fun a0=>jOR 30 rfl<|retT [I 0, .bool false]<|(by obtain ⟨e1,e2⟩:=area_no (w:=w0) (h:=h0) (m:=m0) om;exact ⟨by rw [e1,e2];rfl,hS⟩)) fun a0=>pu4<|sD 14 (w0>128) (fun b0=>jOR 26 rfl<|retT [I 0, .bool false]<|(by obtain ⟨e1,e2⟩:=area_no (w:=w0) (h:=h0) (m:=m0) om;exact ⟨by rw [e1,e2];rfl,hS⟩)) fun b0=>pu4<|sD 18 (h0<1) (fun c0=>jOR 22 rfl<|retT [I 0, .bool false]<|(by obtain ⟨e1,e2⟩:=area_no (w:=w0) (h:=h0) (m:=m0) om;exact ⟨by rw [e1,e2];rfl,hS⟩)) fun c0=>pu4<|sD 22 (h0>128) (fun d0=>jOR 18 rfl<|retT [I 0, .bool false]<|(by obtain ⟨e1,e2⟩:=area_no (w:=w0) (h:=h0) (m:=m0) om;exact ⟨by rw [e1,e2];rfl,hS⟩)) fun d0=>pu4<|sD 26 (m0<1) (fun e0=>jOR 14 rfl<|retT [I 0, .bool false]<|(by obtain ⟨e1,e2⟩:=area_no (w:=w0) (h:=h0) (m:=m0) om;exact ⟨by rw [e1,e2];rfl,hS⟩)) fun e0=>jOC 5 rfl<|cD (m0>4294967296) (fun f0=>jCR 8 rfl<|retT [I 0, .bool false]<|(by obtain ⟨e1,e2⟩:=area_no (w:=w0) (h:=h0) (m:=m0) om;exact ⟨by rw [e1,e2];rfl,hS⟩)) fun f0=>jCO 6 rfl<|cS (p1_mul w0 h0 4096 (od) hS.flat) fun _ g0=>jOR 7 rfl<|retT [I (mulV w0 h0 4096), .bool (mulOK w0 h0 4096)] ?_
 obtain ⟨e1,e2⟩:=area_eq (w:=w0) (h:=h0) (m:=m0) om om om
 exact ⟨by rw [e1,e2];rfl,g0⟩
theorem p4_valid (p:Plane) (hp:Plane.Ok [H] p) (hS:Sat W w (H::F)):
  Ro prog 52 #[.agg (encPlane p).toArray] (.bool (planeOK p.v)) W w (H::F):=by
 have g0:=hp.pix.ll
 refine callsK 42 func52 rfl<|jCO 2 rfl<|sBx hS (encPlane p) fun _ _ f0=>gOO f0 11 [0,0,0] rfl<|cS (p4_area p.w p.h p.max_ f0.flat) fun _ b0=>jOO 13 rfl<|SBn 19 (areaOK p.w p.h p.max_) (fun c0=>jOR 16 rfl<|retT [.bool false]<|⟨rB (planeOK_f1 (p:=p.v) (by intro h9;exact c0 (decide_eq_true h9.1))).symm,(b0.dropAt 0 rfl)⟩) fun c0=>gOC b0 8 [0] rfl<|CN (p.pix.n:Int) (areaV p.w p.h p.max_) (fun h0=>jCR 7 rfl<|retT [.bool false]<|⟨rB (planeOK_f1 (p:=p.v) (by have hx:=c0;unfold areaV at*;rw [if_pos hx] at*;simp only [Plane.v];omega)).symm,(b0.dropAt 0 rfl)⟩) fun h0=>jCC 4 rfl ?_
 have i0:sizeP p.v.w p.v.h p.v.max_/\(p.v.pix.length:Int)=p.v.w*p.v.h:=by have hx:=c0;unfold areaV at*;rw [if_pos hx] at*;exact ⟨of_decide_eq_true hx,by simp only [Plane.v];omega⟩
 refine gCC b0 8 [0] rfl<|loopF [1,27,28] (γ:=Nat) (fun i R=>⟨[(29,I (i:Int))],R,p.pix.n-i,i<=p.pix.n/\(pixOK p.max_ (p.pix.l.take i)=true)⟩) 0 ⟨b0,om,by rfl⟩ ?_
 rintro i ρ _ ⟨a0,hi,hE⟩
 exact jCC 6 rfl<|CD ((i:Int)<(p.pix.n:Int)) (fun j0=>jCR 11 rfl<|retT [.bool true]<|⟨rB (planeOK_t (p:=p.v) i0 (all_of_take hE (by simp only [Plane.v];omega))).symm,(a0.dropAt 0 rfl)⟩) fun j0=>jCO 6 rfl<|sIN hp.pix i fun e0 _ _ d0 l0=>sMp a0 (l0.up 1 rfl) 0 (I e0)<|jOO 8 rfl<|sD 35 (e0<0) (fun m0=>jOR 19 rfl<|retT [.bool false]<|⟨rB (planeOK_f2 (p:=p.v) (all_false_at d0 (decide_eq_false (by simp only [Plane.v];omega)))).symm,(a0.dropAt 0 rfl)⟩) fun m0=>gOC a0 7 [0] rfl<|CD (e0>p.max_) (fun o0=>jCO 4 rfl<|sAdd (i:Int) 1<|jOI 2 rfl<|⟨i+1,od,alB,a0,om,all_succ hE d0 (decide_eq_true om)⟩) fun o0=>jCR 11 rfl<|retT [.bool false]<|⟨rB (planeOK_f2 (p:=p.v) (all_false_at d0 (decide_eq_false (by simp only [Plane.v];omega)))).symm,(a0.dropAt 0 rfl)⟩
theorem p7_within (x:Int) (m:Int) (hm:-4611686018427387904<=m/\m<=4611686018427387904) (hS:Sat W w (H::F)):
  Ro prog 162 #[I x,I m] (.bool (decide (-m<=x/\x<=m))) W w (H::F):=by
 exact callsK 14 func162 rfl<|jCO 8 rfl<|stepY (I (-m)) rfl rfl (Y_neg m rfl kr)<|pu3<|SD 9 ((-m)<=x) (fun a0=>jOR 8 rfl<|retT [.bool false]<|⟨rB bq,hS⟩) fun a0=>jOR 8 rfl<|retT [.bool (decide ((x:Int)<=m))]<|⟨rB bq,hS⟩
theorem p7_weights (ax:Option Addr) (nx kx:Nat) (x:List Int) (hx:RdT Go.E.encI 1 [H] ax nx kx x) (hS:Sat W w (H::F)):
  Ro prog 159 #[.slice ax nx kx] (I (wCode x)) W w (H::F):=by
 have k0:=hx.ll
 refine callsK 23 func159 rfl<|jCO 12 rfl<|sE 8 (nx:Int) 0 (fun e0=>jOR 14 rfl<|retT [I 9]<|⟨by unfold wCode;rw [if_pos om];rfl,hS⟩) fun e0=>jOC 6 rfl<|cD ((nx:Int)>81) (fun f0=>jCR 7 rfl<|retT [I 9]<|⟨by unfold wCode;rw [if_pos om];rfl,hS⟩) fun f0=>jCC 11 rfl<|loopF [13,14] (γ:=Nat) (fun i R=>⟨[(15,I (i:Int))],R,nx-i,i<=nx/\(areW (x.take i)=true)⟩) 0 ⟨hS,om,by rfl⟩ ?_
 rintro i ρ _ ⟨b0,hi,hE⟩
 exact jCC 6 rfl<|CD ((i:Int)<(nx:Int)) (fun g0=>jCR 11 rfl<|retT [I 0]<|(by have j0:areW x=true:=all_of_take hE om;exact ⟨by unfold wCode;rw [if_neg om,if_pos j0];rfl,b0⟩)) fun g0=>jCO 6 rfl<|sIN hx i fun a0 _ _ c0 h0=>sMp b0 (h0.up 0 rfl) 0 (I a0)<|jOO 6 rfl<|cS (p7_within a0 32767 (od) b0.flat) fun _ d0=>jOC 3 rfl<|cDn (-(32767:Int)<=a0/\a0<=(32767:Int)) (fun i0=>jCO 4 rfl<|sAdd (i:Int) 1<|jOI 2 rfl<|⟨i+1,od,alB,d0,om,all_succ hE c0 (decide_eq_true om)⟩) fun i0=>jCR 11 rfl<|retT [I 10]<|(by have j0:areW x=false:=all_false_at c0 (decide_eq_false om);exact ⟨by unfold wCode;rw [if_neg om,j0,if_neg (by decide)];rfl,d0⟩)
theorem p7_bounds (ax:Option Addr) (nx kx:Nat) (x:List Int) (lo:Int) (up:Int) (hx:RdT Go.E.encI 1 [H] ax nx kx x) (hS:Sat W w (H::F)):
  Ro prog 160 #[.slice ax nx kx,I lo,I up] (.tuple #[I (bndLo x lo up),I (bndHi x lo up), .bool (bndOK x lo up)]) W w (H::F):=by
 have t0:=hx.ll
 refine callsK 66 func160 rfl<|jCO 11 rfl<|cS (p7_weights ax nx kx x (hx.fl 0) hS.flat) fun _ c0=>pu2<|SN 16 (wCode x) 0 (fun i0=>jOR 26 rfl<|retT [I 0,I 0, .bool false]<|(by obtain ⟨e1,e2,e3⟩:=bnd_bad (l:=x) (lo:=lo) (hi:=up) om;exact ⟨by rw [e1,e2,e3];rfl,c0⟩)) fun i0=>pu5<|sD 21 (lo>up) (fun j0=>jOR 21 rfl<|retT [I 0,I 0, .bool false]<|(by obtain ⟨e1,e2,e3⟩:=bnd_bad (l:=x) (lo:=lo) (hi:=up) om;exact ⟨by rw [e1,e2,e3];rfl,c0⟩)) fun j0=>pu1<|gY<|cS (p7_within lo 68719476736 (od) c0.flat) fun _ e0=>pu3<|SDn 26 (-(68719476736:Int)<=lo/\lo<=(68719476736:Int)) (fun k0=>jOR 16 rfl<|retT [I 0,I 0, .bool false]<|(by obtain ⟨e1,e2,e3⟩:=bnd_bad (l:=x) (lo:=lo) (hi:=up) om;exact ⟨by rw [e1,e2,e3];rfl,e0⟩)) fun k0=>pu1<|gY<|cS (p7_within up 68719476736 (od) e0.flat) fun _ f0=>jOC 4 rfl<|CDn (-(68719476736:Int)<=up/\up<=(68719476736:Int)) (fun l0=>jCR 9 rfl<|retT [I 0,I 0, .bool false]<|(by obtain ⟨e1,e2,e3⟩:=bnd_bad (l:=x) (lo:=lo) (hi:=up) om;exact ⟨by rw [e1,e2,e3];rfl,f0⟩)) fun l0=>jCC 3 rfl ?_
 obtain ⟨w0,u0,hw⟩:=wCode_len (l:=x) om
 refine jCC 14 rfl<|loopF [1,2,31,32] (γ:=Nat×Int×Int) (fun ⟨i,a,b⟩ R=>⟨[(33,I (i:Int)),(9,I a),(10,I b)],R,nx-i,i<=nx/\(a=sumLo (x.take i) lo up)/\(b=sumHi (x.take i) lo up)/\(-(2251799813685248*(i:Int))<=a/\a<=2251799813685248*(i:Int)/\-(2251799813685248*(i:Int))<=b/\b<=2251799813685248*(i:Int))⟩) (0,0,0) ⟨f0,om,by rfl,by rfl,om⟩ ?_
 rintro ⟨i,a,b⟩ ρ _ ⟨d0,hi,ha,hb,v0⟩
 exact jCC 6 rfl<|CD ((i:Int)<(nx:Int)) (fun m0=>jCO 9 rfl<|cS (p7_within a 17592186044416 (od) d0.flat) fun _ g0=>pu2<|SDn 59 (-(17592186044416:Int)<=a/\a<=(17592186044416:Int)) (fun n0=>jOR 16 rfl<|retT [I 0,I 0, .bool false]<|(by obtain ⟨e1,e2,e3⟩:=bnd_bad2 (l:=x) (i:=i) ha hb om (by unfold accP;omega);exact ⟨by rw [e1,e2,e3];rfl,g0⟩)) fun n0=>pu1<|gY<|cS (p7_within b 17592186044416 (od) g0.flat) fun _ h0=>jOC 4 rfl<|CDn (-(17592186044416:Int)<=b/\b<=(17592186044416:Int)) (fun o0=>jCR 9 rfl<|retT [I 0,I 0, .bool false]<|(by obtain ⟨e1,e2,e3⟩:=bnd_bad2 (l:=x) (i:=i) ha hb om (by unfold accP;omega);exact ⟨by rw [e1,e2,e3];rfl,h0⟩)) fun o0=>jCR 12 rfl<|retT [I a,I b, .bool true]<|(by obtain ⟨e1,e2,e3⟩:=bnd_ret (l:=x) (i:=i) om om om ha hb om (by unfold accP;omega) (by unfold accP;omega);exact ⟨by rw [e1,e2,e3];rfl,h0⟩)) fun m0=>jCO 6 rfl<|sIN hx i fun a0 _ _ b0 p0=>(by have q0:=areW_at hw b0;have r0:=mul_abs (A:=32767) (B:=68719476736) q0 (b:=lo) om;have s0:=mul_abs (A:=32767) (B:=68719476736) q0 (b:=up) om;exact sMp d0 (p0.up 0 rfl) 0 (I a0)<|jOO 8 rfl<|sMul a0 lo<|pu2<|sMul a0 up<|stepY (I (min (a0*lo) (a0*up))) rfl rfl (Y_min2 (a0*lo) (a0*up) rfl rfl kr kr)<|sAdd a (min (a0*lo) (a0*up))<|jOO 7 rfl<|sMul a0 lo<|pu2<|sMul a0 up<|stepY (I (max (a0*lo) (a0*up))) rfl rfl (Y_max2 (a0*lo) (a0*up) rfl rfl kr kr)<|sAdd b (max (a0*lo) (a0*up))<|jOO 5 rfl<|sAdd (i:Int) 1<|jOI 2 rfl<|⟨(i+1,(a+(min (a0*lo) (a0*up))),(b+(max (a0*lo) (a0*up)))),od,alB,d0,om,by have e:=sum_at (f:=fun w=>min (w*lo) (w*up)) b0;unfold sumLo at*;omega,by have e:=sum_at (f:=fun w=>max (w*lo) (w*up)) b0;unfold sumHi at*;omega,om⟩)
theorem p7_shift (a:Int) (s:Int) (hS:Sat W w (H::F)):
  Ro prog 129 #[I a,I s] (I (shiftV a s)) W w (H::F):=by
 exact callsK 26 func129 rfl<|jCO 9 rfl<|cS (p7_within a 17592186044416 (od) hS.flat) fun _ a0=>pu2<|SDn 8 (-(17592186044416:Int)<=a/\a<=(17592186044416:Int)) (fun b0=>jOR 17 rfl<|retT [I 0]<|⟨by unfold shiftV;rw [if_neg (by unfold accP;omega)];rfl,a0⟩) fun b0=>pu4<|sD 12 (s<0) (fun c0=>jOR 13 rfl<|retT [I 0]<|⟨by unfold shiftV;rw [if_neg (by unfold accP;omega)];rfl,a0⟩) fun c0=>jOC 5 rfl<|cD (s>24) (fun d0=>jCR 7 rfl<|retT [I 0]<|⟨by unfold shiftV;rw [if_neg (by unfold accP;omega)];rfl,a0⟩) fun d0=>jCC 9 rfl<|cE s 0 (fun e0=>jCR 8 rfl<|retT [I a]<|⟨by unfold shiftV;rw [if_pos (by unfold accP;omega),if_pos om];rfl,a0⟩) fun e0=>jCC 3 rfl<|(by have hp:=pow2_pos ((s-1)).toNat;have f0:=pow2_le (a:=((s-1)).toNat) (b:=24) om;exact jCO 3 rfl<|sSub s 1<|stepY (I (2^((s-1)).toNat)) rfl rfl (Y_shl1 (k':= .i64) (s-1) rfl kr kr om)<|sAdd a (2^((s-1)).toNat)<|pu1<|stepY (I ((a+(2^((s-1)).toNat))/2^s.toNat)) rfl rfl (Y_shrS (k':= .i64) (a+(2^((s-1)).toNat)) s rfl kr kr om)<|jOR 4 rfl<|retT [I ((a+(2^((s-1)).toNat))/2^s.toNat)]<|⟨by unfold shiftV;rw [if_pos (by unfold accP;omega),if_neg om];rfl,a0⟩)
theorem p7_span (lo:Int) (up:Int) (s:Int) (hS:Sat W w (H::F)):
    Ro prog 163 #[.int .i64 lo, .int .i64 up, .int .i64 s] (.tuple #[.int .i64 (shiftV lo s), .int .i64 (shiftV up s)]) W w (H::F):=by
  exact callsK 14 func163 rfl<|jCO 10 rfl<|cS (p7_shift lo s hS.flat) fun c0 a0=>pu2<|cS (p7_shift up s a0.flat) fun d0 b0=>jOR 5 rfl<|retT [.int .i64 (shiftV lo s), .int .i64 (shiftV up s)]<|⟨rfl,b0⟩
theorem p3_valid (e0:Edge) (m:Int) (hS:Sat W w (H::F)):
  Ro prog 124 #[.agg #[I e0.policy,I e0.fill],I m] (.bool (decide ((e0.policy=3/\0<=e0.fill/\e0.fill<=m)\/(0<=e0.policy/\e0.policy<3/\e0.fill=0)))) W w (H::F):=by
 exact callsK 25 func124 rfl<|jCO 2 rfl<|sBx hS [I e0.policy,I e0.fill] fun _ _ a0=>gOC a0 18 [0] rfl<|cE e0.policy 0 (fun b0=>jCC 2 rfl<|cT _ (beq_iff_eq.2 b0)<|gCR a0 11 [0] rfl<|retT [.bool ((e0.fill:Int)==0)]<|⟨rB bq,(a0.dropAt 0 rfl)⟩) fun b0=>jCC 6 rfl<|cE e0.policy 1 (fun c0=>jCC 2 rfl<|cT _ (beq_iff_eq.2 c0)<|gCR a0 11 [0] rfl<|retT [.bool ((e0.fill:Int)==0)]<|⟨rB bq,(a0.dropAt 0 rfl)⟩) fun c0=>jCC 5 rfl<|cE e0.policy 2 (fun g0=>gCR a0 11 [0] rfl<|retT [.bool ((e0.fill:Int)==0)]<|⟨rB bq,(a0.dropAt 0 rfl)⟩) fun g0=>jCC 6 rfl<|CE e0.policy 3 (fun i0=>jCR 9 rfl<|retT [.bool false]<|⟨rB bq,(a0.dropAt 0 rfl)⟩) fun i0=>gCO a0 6 [0] rfl<|SD 19 (0<=e0.fill) (fun k0=>jOR 11 rfl<|retT [.bool false]<|⟨rB bq,(a0.dropAt 0 rfl)⟩) fun k0=>gOR a0 11 [0] rfl<|retT [.bool (decide ((e0.fill:Int)<=m))]<|⟨rB bq,(a0.dropAt 0 rfl)⟩
theorem p8_first (x:Int) (hS:Sat W w (H::F)):
  Ro prog 188 #[I x] (.bool (decide ((-128:Int)<=x/\x<=(256:Int)))) W w (H::F):=by
 exact callsK 9 func188 rfl<|jCO 10 rfl<|SD 5 (-128<=x) (fun a0=>jOR 7 rfl<|retT [.bool false]<|⟨rB bq,hS⟩) fun a0=>jOR 7 rfl<|retT [.bool (decide ((x:Int)<=256))]<|⟨rB bq,hS⟩
theorem p8_valid (ax:Option Addr) (nx kx:Nat) (x:List Tap) (m:Int) (hx:RdT encTap 2 [H] ax nx kx x) (dx:∀z∈x,Tap.Ok [H] z) (hS:Sat W w (H::F)):
  Ro prog 164 #[.slice ax nx kx,I m] (I (tapsCode (x.map Tap.v) m)) W w (H::F):=by
 have F0:=hx.le;have A0:=hx.len
 refine callsK 60 func164 rfl<|jCO 11 rfl<|sD 11 (m<1) (fun i0=>jOR 23 rfl<|retT [I 8]<|(by have B0:(x.map Tap.v).length=nx:=(by simp [A0]);exact ⟨by unfold tapsCode;rw [if_neg om];rfl,hS⟩)) fun i0=>pu4<|sD 15 (m>128) (fun j0=>jOR 19 rfl<|retT [I 8]<|(by have B0:(x.map Tap.v).length=nx:=(by simp [A0]);exact ⟨by unfold tapsCode;rw [if_neg om];rfl,hS⟩)) fun j0=>pu5<|sE 20 (nx:Int) 0 (fun k0=>jOR 14 rfl<|retT [I 8]<|(by have B0:(x.map Tap.v).length=nx:=(by simp [A0]);exact ⟨by unfold tapsCode;rw [if_neg om];rfl,hS⟩)) fun k0=>jOC 6 rfl<|cD ((nx:Int)>128) (fun l0=>jCR 7 rfl<|retT [I 8]<|(by have B0:(x.map Tap.v).length=nx:=(by simp [A0]);exact ⟨by unfold tapsCode;rw [if_neg om];rfl,hS⟩)) fun l0=>jCC 11 rfl<|loopF [25,26] (γ:=Nat) (fun i R=>⟨[(27,I (i:Int))],R,nx-i,i<=nx/\(((x.map Tap.v).take i).all (fun x=>decide (tapCode x=0))=true)⟩) 0 ⟨hS,om,by rfl⟩ ?_
 rintro i ρ _ ⟨f0,hi,hE⟩
 refine jCC 6 rfl<|CD ((i:Int)<(nx:Int)) (fun m0=>jCR 11 rfl<|retT [I 0]<|(by have B0:(x.map Tap.v).length=nx:=(by simp [A0]);exact ⟨by unfold tapsCode;rw [if_pos om,firstErr_none hE om];rfl,f0⟩)) fun m0=>jCO 6 rfl<|sIN hx i fun a0 _ _ b0 n0=>?_
 have E0:=(dx a0 (List.mem_of_getElem? b0)).weights.len;have D0:=(dx a0 (List.mem_of_getElem? b0)).weights.le
 refine sMA f0 (n0.up 0 rfl) 0 [I a0.first, .slice a0.weights.a a0.weights.n a0.weights.k]<|sAlloc f0 zeroValue121 fun _ _ o0=>sTk o0 0 rfl [I a0.first, .slice a0.weights.a a0.weights.n a0.weights.k] fun _ c0=>gOO c0 10 [0] rfl<|sE 35 (a0.weights.n:Int) 0 (fun p0=>jOR 20 rfl<|retT [I 9]<|(by have q0:=(c0.dropAt 0 rfl);have B0:(x.map Tap.v).length=nx:=(by simp [A0]);have v0:tapC a0.first a0.weights.l=9:=(by unfold tapC;rw [if_pos om]);exact ⟨by unfold tapsCode;rw [if_pos om,firstErr_at hE (map_at (f:=Tap.v) b0) (show tapC a0.first a0.weights.l≠0 by omega)];exact congrArg (fun c=>Ending.returned (packed [I c])) v0.symm,q0⟩)) fun p0=>gOC c0 7 [0] rfl<|cD ((a0.weights.n:Int)>8) (fun r0=>jCR 12 rfl<|retT [I 9]<|(by have s0:=(c0.dropAt 0 rfl);have B0:(x.map Tap.v).length=nx:=(by simp [A0]);have v0:tapC a0.first a0.weights.l=9:=(by unfold tapC;rw [if_pos om]);exact ⟨by unfold tapsCode;rw [if_pos om,firstErr_at hE (map_at (f:=Tap.v) b0) (show tapC a0.first a0.weights.l≠0 by omega)];exact congrArg (fun c=>Ending.returned (packed [I c])) v0.symm,s0⟩)) fun r0=>gCC c0 12 [0] rfl<|loopF [25,26,27,6,42,43] (γ:=Nat) (fun k R=>⟨[(44,I (k:Int))],R,a0.weights.n-k,k<=a0.weights.n/\(areW (a0.weights.l.take k)=true)⟩) 0 ⟨c0,om,by rfl⟩ ?_
 rintro k ρ _ ⟨d0,hk,hK⟩
 refine jCC 6 rfl<|CD ((k:Int)<(a0.weights.n:Int)) (fun t0=>gCO d0 9 [0] rfl<|cS (p8_first a0.first d0.flat) fun _ h0=>jOC 3 rfl<|cDn ((-128:Int)<=a0.first/\a0.first<=(256:Int)) (fun u0=>jCO 4 rfl<|sAdd (i:Int) 1<|jOI 2 rfl<|(by have C0:areW a0.weights.l=true:=all_of_take hK om;have v0:tapC a0.first a0.weights.l=0:=(by unfold tapC;rw [if_neg om,if_pos C0,if_pos om]);exact ⟨i+1,od,alB,(h0.dropAt 0 rfl),om,all_succ hE (map_at (f:=Tap.v) b0) (decide_eq_true v0)⟩)) fun u0=>jCR 11 rfl<|retT [I 2]<|(by have w0:=(h0.dropAt 0 rfl);have B0:(x.map Tap.v).length=nx:=(by simp [A0]);have C0:areW a0.weights.l=true:=all_of_take hK om;have v0:tapC a0.first a0.weights.l=2:=(by unfold tapC;rw [if_neg om,if_pos C0,if_neg om]);exact ⟨by unfold tapsCode;rw [if_pos om,firstErr_at hE (map_at (f:=Tap.v) b0) (show tapC a0.first a0.weights.l≠0 by omega)];exact congrArg (fun c=>Ending.returned (packed [I c])) v0.symm,w0⟩)) fun t0=>jCO 6 rfl<|sII (dx a0 (List.mem_of_getElem? b0)).weights (k:Int) fun g0 _ _ e0 x0=>?_
 rw [Int.toNat_natCast] at e0
 refine sMp d0 (x0.up 1 rfl) 0 (I g0)<|jOO 8 rfl<|sD 50 (g0<(-32767)) (fun y0=>jOR 22 rfl<|retT [I 10]<|(by have z0:=(d0.dropAt 0 rfl);have B0:(x.map Tap.v).length=nx:=(by simp [A0]);have C0:areW a0.weights.l=false:=all_false_at e0 (decide_eq_false om);have v0:tapC a0.first a0.weights.l=10:=(by unfold tapC;rw [if_neg om,C0,if_neg (by decide)]);exact ⟨by unfold tapsCode;rw [if_pos om,firstErr_at hE (map_at (f:=Tap.v) b0) (show tapC a0.first a0.weights.l≠0 by omega)];exact congrArg (fun c=>Ending.returned (packed [I c])) v0.symm,z0⟩)) fun y0=>jOC 5 rfl<|CD (g0>32767) (fun a1=>jCO 4 rfl<|sAdd (k:Int) 1<|jOI 2 rfl<|⟨k+1,od,alB,d0,om,all_succ hK e0 (decide_eq_true om)⟩) fun a1=>jCR 16 rfl<|retT [I 10] ?_
 have b1:=(d0.dropAt 0 rfl)
 have B0:(x.map Tap.v).length=nx:=by simp [A0]
 have C0:areW a0.weights.l=false:=all_false_at e0 (decide_eq_false om)
 have v0:tapC a0.first a0.weights.l=10:=by unfold tapC;rw [if_neg om,C0,if_neg (by decide)]
 exact ⟨by unfold tapsCode;rw [if_pos om,firstErr_at hE (map_at (f:=Tap.v) b0) (show tapC a0.first a0.weights.l≠0 by omega)];exact congrArg (fun c=>Ending.returned (packed [I c])) v0.symm,b1⟩
theorem p9_check (mx:Int) (kw:Int) (kh:Int) (aws:Option Addr) (nws kws:Nat) (ws:List Int) (sh:Int) (out:Int) (hws:RdT Go.E.encI 1 [H] aws nws kws ws) (hS:Sat W w (H::F)):
  Ro prog 126 #[I mx,I kw,I kh, .slice aws nws kws,I sh,I out] (I (convCode mx kw kh ws sh out)) W w (H::F):=by
 have t0:=hws.ll
 refine callsK 72 func126 rfl<|jCC 6 rfl<|cutF hS 0 [0,3,4,5] (γ:=Unit) (fun _ R=>⟨[(37, .bool (decide (¬((1<=kw/\kw<=9)/\(1<=kh/\kh<=9)/\(ws.length:Int)=kw*kh))))],R,0,True⟩) ?_ ?_
 ·exact jCO 4 rfl<|sD 18 (kw<1) (fun f0=>jOI 20 rfl<|⟨(),⟨⟨(Eq.trans (b:= .bool true) kr (congrArg Value.bool (decide_eq_true (p:=¬((1<=kw/\kw<=9)/\(1<=kh/\kh<=9)/\(ws.length:Int)=kw*kh)) om).symm)),trivial⟩,sA⟩,hS,trivial⟩) fun f0=>pu4<|sD 22 (kw>9) (fun g0=>jOI 16 rfl<|⟨(),⟨⟨(Eq.trans (b:= .bool true) kr (congrArg Value.bool (decide_eq_true (p:=¬((1<=kw/\kw<=9)/\(1<=kh/\kh<=9)/\(ws.length:Int)=kw*kh)) om).symm)),trivial⟩,sA⟩,hS,trivial⟩) fun g0=>pu4<|sD 26 (kh<1) (fun h0=>jOI 12 rfl<|⟨(),⟨⟨(Eq.trans (b:= .bool true) kr (congrArg Value.bool (decide_eq_true (p:=¬((1<=kw/\kw<=9)/\(1<=kh/\kh<=9)/\(ws.length:Int)=kw*kh)) om).symm)),trivial⟩,sA⟩,hS,trivial⟩) fun h0=>pu4<|sD 30 (kh>9) (fun i0=>jOI 8 rfl<|⟨(),⟨⟨(Eq.trans (b:= .bool true) kr (congrArg Value.bool (decide_eq_true (p:=¬((1<=kw/\kw<=9)/\(1<=kh/\kh<=9)/\(ws.length:Int)=kw*kh)) om).symm)),trivial⟩,sA⟩,hS,trivial⟩) fun i0=>pu4<|gY<|(by have w0:=mul_bd (a:=kw) (b:=kh) (A:=9) (B:=9) om om;exact sMul kw kh<|jOI 3 rfl<|⟨(),⟨⟨(Eq.trans (b:= .bool (((nws:Int):Int)!=(kw*kh))) kr (congrArg Value.bool bm)),trivial⟩,sA⟩,hS,trivial⟩)
 rintro _ ρ _ ⟨b0,_⟩
 refine cD (¬((1<=kw/\kw<=9)/\(1<=kh/\kh<=9)/\(ws.length:Int)=kw*kh)) (fun j0=>jCR 7 rfl<|retT [I 9]<|⟨(by unfold convCode;exact ssp),b0⟩) fun j0=>jCC 3 rfl<|cutF b0 0 [0,3,5] (γ:=Unit) (fun _ R=>⟨[(48, .bool (decide (¬(areW ws=true/\0<=sh/\sh<=24))))],R,0,True⟩) ?_ ?_
 · exact (by have u0:=Int.mul_pos (a:=kw) (b:=kh) om om;have v0:=mul_bd (a:=kw) (b:=kh) (A:=9) (B:=9) om om;have s0:wCode ws=0↔areW ws=true:=(by unfold wCode;rw [if_neg om];split<;>simp_all);exact jCO 2 rfl<|cS (p7_weights aws nws kws ws (hws.fl 0) b0.flat) fun _ c0=>pu2<|SN 41 (wCode ws) 0 (fun k0=>jOI 8 rfl<|⟨(),⟨⟨(Eq.trans (b:= .bool true) kr (congrArg Value.bool (decide_eq_true (p:=¬(areW ws=true/\0<=sh/\sh<=24)) (by (rw [<-s0];omega))).symm)),trivial⟩,sA⟩,c0,trivial⟩) fun k0=>pu4<|sD 45 (sh<0) (fun l0=>jOI 4 rfl<|⟨(),⟨⟨(Eq.trans (b:= .bool true) kr (congrArg Value.bool (decide_eq_true (p:=¬(areW ws=true/\0<=sh/\sh<=24)) (by (rw [<-s0];omega))).symm)),trivial⟩,sA⟩,c0,trivial⟩) fun l0=>jOI 4 rfl<|⟨(),⟨⟨(Eq.trans (b:= .bool (decide (sh>24))) kr (congrArg Value.bool (by rw [Bool.eq_iff_iff];simp only [decide_eq_true_eq,beq_iff_eq,bne_iff_ne,ne_eq,Bool.not_eq_true',decide_eq_false_iff_not,gt_iff_lt,ge_iff_le,Bool.and_eq_true,Bool.or_eq_true,Bool.not_eq_eq_eq_not,Bool.not_true,Bool.and_eq_false_imp,beq_eq_false_iff_ne]<;>(rw [<-s0];omega)))),trivial⟩,sA⟩,c0,trivial⟩)
 rintro _ ρ _ ⟨a0,_⟩
 refine cD (¬(areW ws=true/\0<=sh/\sh<=24)) (fun m0=>jCR 7 rfl<|retT [I 10]<|⟨(by unfold convCode;exact ssp),a0⟩) fun m0=>jCC 3 rfl<|cutF a0 0 [0,3] (γ:=Unit) (fun _ R=>⟨[(62, .bool (decide (¬((1<=mx/\mx<=4294967296)/\1<=out/\out<=4294967296))))],R,0,True⟩) ?_ ?_
 rotate_left
 · exact (by rintro _ ρ _ ⟨d0,_⟩;exact cD (¬((1<=mx/\mx<=4294967296)/\1<=out/\out<=4294967296)) (fun n0=>jCR 7 rfl<|retT [I 2]<|⟨(by unfold convCode;exact ssp),d0⟩) fun n0=>jCO 7 rfl<|cS (p7_bounds aws nws kws ws 0 mx (hws.fl 0) d0.flat) fun _ e0=>jOC 15 rfl<|CBn (bndOK ws 0 mx) (fun o0=>jCR 7 rfl<|retT [I 11]<|⟨(by unfold convCode;exact ssp),e0⟩) fun o0=>jCR 8 rfl<|retT [I 0]<|⟨(by unfold convCode;exact ssp),e0⟩)
 exact jCO 4 rfl<|sD 51 (mx<1) (fun p0=>jOI 12 rfl<|⟨(),⟨⟨(Eq.trans (b:= .bool true) kr (congrArg Value.bool (decide_eq_true (p:=¬((1<=mx/\mx<=4294967296)/\1<=out/\out<=4294967296)) om).symm)),trivial⟩,sA⟩,a0,trivial⟩) fun p0=>pu4<|sD 55 (mx>4294967296) (fun q0=>jOI 8 rfl<|⟨(),⟨⟨(Eq.trans (b:= .bool true) kr (congrArg Value.bool (decide_eq_true (p:=¬((1<=mx/\mx<=4294967296)/\1<=out/\out<=4294967296)) om).symm)),trivial⟩,sA⟩,a0,trivial⟩) fun q0=>pu4<|sD 59 (out<1) (fun r0=>jOI 4 rfl<|⟨(),⟨⟨(Eq.trans (b:= .bool true) kr (congrArg Value.bool (decide_eq_true (p:=¬((1<=mx/\mx<=4294967296)/\1<=out/\out<=4294967296)) om).symm)),trivial⟩,sA⟩,a0,trivial⟩) fun r0=>jOI 4 rfl<|⟨(),⟨⟨(Eq.trans (b:= .bool (decide (out>4294967296))) kr (congrArg Value.bool bm)),trivial⟩,sA⟩,a0,trivial⟩
theorem p10_check (mx:Int) (arow:Option Addr) (nrow krow:Nat) (row:List Int) (acol:Option Addr) (ncol kcol:Nat) (col:List Int) (sh:Int) (sh2:Int) (out:Int) (hrow:RdT Go.E.encI 1 [H] arow nrow krow row) (hcol:RdT Go.E.encI 1 [H] acol ncol kcol col) (hS:Sat W w (H::F)):
  Ro prog 130 #[I mx, .slice arow nrow krow, .slice acol ncol kcol,I sh,I sh2,I out] (I (sepCode mx row col sh sh2 out)) W w (H::F):=by
 have z0:=hrow.ll
 have y0:=hcol.ll
 refine callsK 98 func130 rfl<|jCC 15 rfl<|loopM 3<|roundK<|jCO 23 rfl<|sE 30 (nrow:Int) 0 (fun g0=>jOR 18 rfl<|retT [I 9]<|⟨(by unfold sepCode;exact ssp),hS⟩) fun g0=>jOC 6 rfl<|cD ((nrow:Int)>9) (fun h0=>jCR 11 rfl<|retT [I 9]<|⟨(by unfold sepCode;exact ssp),hS⟩) fun h0=>jCI 7 rfl<|roundK<|jCO 23 rfl<|sE 30 (ncol:Int) 0 (fun i0=>jOR 18 rfl<|retT [I 9]<|⟨(by unfold sepCode;exact ssp),hS⟩) fun i0=>jOC 6 rfl<|cD ((ncol:Int)>9) (fun j0=>jCR 11 rfl<|retT [I 9]<|⟨(by unfold sepCode;exact ssp),hS⟩) fun j0=>jCI 7 rfl<|roundK<|jCC 13 rfl<|cutF hS 0 [0,1,2,3,4,5] (γ:=Unit) (fun _ R=>⟨[(43, .bool (decide (¬(areW row=true/\areW col=true))))],R,0,True⟩) ?_ ?_
 · exact (by have B0:wCode row=0↔areW row=true:=(by unfold wCode;rw [if_neg om];split<;>simp_all);have A0:wCode col=0↔areW col=true:=(by unfold wCode;rw [if_neg om];split<;>simp_all);exact jCO 2 rfl<|cS (p7_weights arow nrow krow row (hrow.fl 0) hS.flat) fun _ c0=>pu2<|SN 39 (wCode row) 0 (fun k0=>jOI 5 rfl<|⟨(),⟨⟨(Eq.trans (b:= .bool true) kr (congrArg Value.bool (decide_eq_true (p:=¬(areW row=true/\areW col=true)) (by (rw [<-B0,<-A0];omega))).symm)),trivial⟩,sA⟩,c0,trivial⟩) fun k0=>pu1<|gY<|cS (p7_weights acol ncol kcol col (hcol.fl 0) c0.flat) fun _ l0=>jOI 3 rfl<|⟨(),⟨⟨(Eq.trans (b:= .bool (((wCode col):Int)!=0)) kr (congrArg Value.bool (by rw [Bool.eq_iff_iff];simp only [decide_eq_true_eq,beq_iff_eq,bne_iff_ne,ne_eq,Bool.not_eq_true',decide_eq_false_iff_not,gt_iff_lt,ge_iff_le,Bool.and_eq_true,Bool.or_eq_true,Bool.not_eq_eq_eq_not,Bool.not_true,Bool.and_eq_false_imp,beq_eq_false_iff_ne]<;>(rw [<-B0,<-A0];omega)))),trivial⟩,sA⟩,l0,trivial⟩)
 rintro _ ρ _ ⟨a0,_⟩
 refine cD (¬(areW row=true/\areW col=true)) (fun m0=>jCR 7 rfl<|retT [I 10]<|⟨(by unfold sepCode;exact ssp),a0⟩) fun m0=>jCC 3 rfl<|cutF a0 0 [0,1,2,3,5] (γ:=Unit) (fun _ R=>⟨[(57, .bool (decide (¬((0<=sh/\sh<=24)/\0<=sh2/\sh2<=24))))],R,0,True⟩) ?_ ?_
 ·exact jCO 4 rfl<|sD 46 (sh<0) (fun n0=>jOI 12 rfl<|⟨(),⟨⟨(Eq.trans (b:= .bool true) kr (congrArg Value.bool (decide_eq_true (p:=¬((0<=sh/\sh<=24)/\0<=sh2/\sh2<=24)) om).symm)),trivial⟩,sA⟩,a0,trivial⟩) fun n0=>pu4<|sD 50 (sh>24) (fun o0=>jOI 8 rfl<|⟨(),⟨⟨(Eq.trans (b:= .bool true) kr (congrArg Value.bool (decide_eq_true (p:=¬((0<=sh/\sh<=24)/\0<=sh2/\sh2<=24)) om).symm)),trivial⟩,sA⟩,a0,trivial⟩) fun o0=>pu4<|sD 54 (sh2<0) (fun p0=>jOI 4 rfl<|⟨(),⟨⟨(Eq.trans (b:= .bool true) kr (congrArg Value.bool (decide_eq_true (p:=¬((0<=sh/\sh<=24)/\0<=sh2/\sh2<=24)) om).symm)),trivial⟩,sA⟩,a0,trivial⟩) fun p0=>jOI 4 rfl<|⟨(),⟨⟨(Eq.trans (b:= .bool (decide (sh2>24))) kr (congrArg Value.bool bm)),trivial⟩,sA⟩,a0,trivial⟩
 rintro _ ρ _ ⟨b0,_⟩
 refine cD (¬((0<=sh/\sh<=24)/\0<=sh2/\sh2<=24)) (fun q0=>jCR 7 rfl<|retT [I 10]<|⟨(by unfold sepCode;exact ssp),b0⟩) fun q0=>jCC 3 rfl<|cutF b0 0 [0,1,2,3] (γ:=Unit) (fun _ R=>⟨[(71, .bool (decide (¬((1<=mx/\mx<=4294967296)/\1<=out/\out<=4294967296))))],R,0,True⟩) ?_ ?_
 ·exact jCO 4 rfl<|sD 60 (mx<1) (fun r0=>jOI 12 rfl<|⟨(),⟨⟨(Eq.trans (b:= .bool true) kr (congrArg Value.bool (decide_eq_true (p:=¬((1<=mx/\mx<=4294967296)/\1<=out/\out<=4294967296)) om).symm)),trivial⟩,sA⟩,b0,trivial⟩) fun r0=>pu4<|sD 64 (mx>4294967296) (fun s0=>jOI 8 rfl<|⟨(),⟨⟨(Eq.trans (b:= .bool true) kr (congrArg Value.bool (decide_eq_true (p:=¬((1<=mx/\mx<=4294967296)/\1<=out/\out<=4294967296)) om).symm)),trivial⟩,sA⟩,b0,trivial⟩) fun s0=>pu4<|sD 68 (out<1) (fun t0=>jOI 4 rfl<|⟨(),⟨⟨(Eq.trans (b:= .bool true) kr (congrArg Value.bool (decide_eq_true (p:=¬((1<=mx/\mx<=4294967296)/\1<=out/\out<=4294967296)) om).symm)),trivial⟩,sA⟩,b0,trivial⟩) fun t0=>jOI 4 rfl<|⟨(),⟨⟨(Eq.trans (b:= .bool (decide (out>4294967296))) kr (congrArg Value.bool bm)),trivial⟩,sA⟩,b0,trivial⟩
 rintro _ ρ _ ⟨d0,_⟩
 exact cD (¬((1<=mx/\mx<=4294967296)/\1<=out/\out<=4294967296)) (fun u0=>jCR 7 rfl<|retT [I 2]<|⟨(by unfold sepCode;exact ssp),d0⟩) fun u0=>jCO 6 rfl<|cS (p7_bounds arow nrow krow row 0 mx (hrow.fl 0) d0.flat) fun _ e0=>jOC 16 rfl<|CBn (bndOK row 0 mx) (fun v0=>jCR 7 rfl<|retT [I 11]<|⟨(by unfold sepCode;exact ssp),e0⟩) fun v0=>jCO 7 rfl<|cS (p7_span (bndLo row 0 mx) (bndHi row 0 mx) sh e0.flat) fun _ w0=>jOO 13 rfl<|cS (p7_bounds acol ncol kcol col (shiftV (bndLo row 0 mx) sh) (shiftV (bndHi row 0 mx) sh) (hcol.fl 0) w0.flat) fun _ f0=>jOC 15 rfl<|CBn (bndOK col (shiftV (bndLo row 0 mx) sh) (shiftV (bndHi row 0 mx) sh)) (fun x0=>jCR 7 rfl<|retT [I 11]<|⟨(by unfold sepCode;exact ssp),f0⟩) fun x0=>jCR 8 rfl<|retT [I 0]<|⟨(by unfold sepCode;exact ssp),f0⟩
def accCode (x y:List TapV) (mx s:Int):Int:=if x.all (fun t=>bndOK t.weights 0 mx)=true then (if y.all (fun t=>bndOK t.weights (runLo (spLo mx s) x) (runHi (spHi mx s) x))=true then 0 else 11) else 11
theorem p11_acc (ax:Option Addr) (nx kx:Nat) (x:List Tap) (ay:Option Addr) (ny ky:Nat) (y:List Tap) (mx:Int) (sh:Int) (hx:RdT encTap 2 [H] ax nx kx x) (dx:∀z∈x,Tap.Ok [H] z) (hy:RdT encTap 2 [H] ay ny ky y) (dy:∀z∈y,Tap.Ok [H] z) (hS:Sat W w (H::F)):
  Ro prog 165 #[.slice ax nx kx, .slice ay ny ky,I mx,I sh] (I (accCode (x.map Tap.v) (y.map Tap.v) mx sh)) W w (H::F):=by
 have F0:=hx.ll
 have G0:=hy.ll
 refine callsK 74 func165 rfl<|jCC 20 rfl<|loopF [1,2,3,21,22] (γ:=Nat×Int×Int) (fun ⟨i,lo,up⟩ R=>⟨[(23,I (i:Int)),(9,I lo),(10,I up)],R,nx-i,i<=nx/\(lo=runLo (spLo mx sh) ((x.map Tap.v).take i)/\up=runHi (spHi mx sh) ((x.map Tap.v).take i))/\(((x.map Tap.v).take i).all (fun t=>bndOK t.weights 0 mx)=true)⟩) (0,0,0) ⟨hS,om,by exact ⟨rfl,rfl⟩,by rfl⟩ ?_
 rintro ⟨i,lo,up⟩ ρ _ ⟨e0,hi,hr,hE⟩
 refine jCC 6 rfl<|CD ((i:Int)<(nx:Int)) (fun l0=>jCC 7 rfl<|(by have A0:(x.map Tap.v).all (fun t=>bndOK t.weights 0 mx)=true:=all_of_take hE (by simp;omega);have C0:lo=runLo (spLo mx sh) (x.map Tap.v):=(by rw [hr.1,List.take_of_length_le (by simp;omega)]);have D0:up=runHi (spHi mx sh) (x.map Tap.v):=(by rw [hr.2,List.take_of_length_le (by simp;omega)]);refine jCC 7 rfl<|loopF [9,10,56,57] (γ:=Nat) (fun j R=>⟨[(58,I (j:Int))],R,ny-j,j<=ny/\(((y.map Tap.v).take j).all (fun t=>bndOK t.weights (runLo (spLo mx sh) (x.map Tap.v)) (runHi (spHi mx sh) (x.map Tap.v)))=true)⟩) 0 ⟨e0,om,by rfl⟩ ?_;rintro j ρ _ ⟨f0,hj,hF⟩;exact jCC 6 rfl<|CD ((j:Int)<(ny:Int)) (fun m0=>jCR 11 rfl<|retT [I 0]<|(by have B0:=all_of_take hF (by simp;omega);exact ⟨by unfold accCode;rw [if_pos A0,if_pos B0];rfl,f0⟩)) fun m0=>jCO 6 rfl<|sIN hy j fun b0 _ _ d0 n0=>(by have x0:=(dy b0 (List.mem_of_getElem? d0)).weights.len;have q0:=(dy b0 (List.mem_of_getElem? d0)).weights.le;exact sMA f0 (n0.up 0 rfl) 0 [I b0.first, .slice b0.weights.a b0.weights.n b0.weights.k]<|sAlloc f0 zeroValue121 fun _ _ o0=>sTk o0 0 rfl [I b0.first, .slice b0.weights.a b0.weights.n b0.weights.k] fun _ g0=>gOO g0 8 [0] rfl<|cS (p7_bounds b0.weights.a b0.weights.n b0.weights.k b0.weights.l lo up (RdT.flat ((dy b0 (List.mem_of_getElem? d0)).weights.up 1 (by rfl))) g0.flat) fun _ h0=>jOC 15 rfl<|cBn (bndOK b0.weights.l lo up) (fun p0=>jCO 4 rfl<|sAdd (j:Int) 1<|jOI 2 rfl<|⟨j+1,od,alB,(h0.dropAt 0 rfl),om,all_succ hF (map_at (f:=Tap.v) d0) (by simp only [Tap.v];rw [<-C0,<-D0];simp_all)⟩) fun p0=>jCR 11 rfl<|retT [I 11]<|(by have r0:=(h0.dropAt 0 rfl);have B0:=all_false_at (p:=fun t=>bndOK t.weights (runLo (spLo mx sh) (x.map Tap.v)) (runHi (spHi mx sh) (x.map Tap.v))) (map_at (f:=Tap.v) d0) (by simp only [Tap.v];rw [<-C0,<-D0];simp_all);exact ⟨by unfold accCode;rw [if_pos A0,if_neg (by rw [B0];decide)];rfl,r0⟩)))) fun l0=>?_
 refine jCO 7 rfl<|sIN hx i fun a0 _ _ c0 s0=>?_
 have z0:=(dx a0 (List.mem_of_getElem? c0)).weights.len;have y0:=(dx a0 (List.mem_of_getElem? c0)).weights.le
 refine sMA e0 (s0.up 0 rfl) 0 [I a0.first, .slice a0.weights.a a0.weights.n a0.weights.k]<|sAlloc e0 zeroValue121 fun _ _ t0=>pu1<|sTk t0 0 rfl [I a0.first, .slice a0.weights.a a0.weights.n a0.weights.k] fun _ i0=>gOO i0 7 [0] rfl<|cS (p7_bounds a0.weights.a a0.weights.n a0.weights.k a0.weights.l 0 mx (RdT.flat ((dx a0 (List.mem_of_getElem? c0)).weights.up 1 (by rfl))) i0.flat) fun _ j0=>jOC 16 rfl<|CBn (bndOK a0.weights.l 0 mx) (fun u0=>jCR 12 rfl<|retT [I 11]<|(by have v0:=(j0.dropAt 0 rfl);have A0:=all_false_at (p:=fun t=>bndOK t.weights 0 mx) (map_at (f:=Tap.v) c0) (by simp only [Tap.v];simp_all);exact ⟨by unfold accCode;rw [if_neg (by rw [A0];decide)];rfl,v0⟩)) fun u0=>jCO 7 rfl<|cS (p7_span (bndLo a0.weights.l 0 mx) (bndHi a0.weights.l 0 mx) sh j0.flat) fun _ k0=>jOC 14 rfl<|cE (i:Int) 0 (fun w0=>?_) (fun w0=>?_)
 rotate_left
 ·exact jCO 5 rfl<|stepY (I (min lo (shiftV (bndLo a0.weights.l 0 mx) sh))) rfl rfl (Y_min2 lo (shiftV (bndLo a0.weights.l 0 mx) sh) rfl rfl kr kr)<|pu2<|stepY (I (max up (shiftV (bndHi a0.weights.l 0 mx) sh))) rfl rfl (Y_max2 up (shiftV (bndHi a0.weights.l 0 mx) sh) rfl rfl kr kr)<|jOO 6 rfl<|sAdd (i:Int) 1<|jOI 2 rfl<|⟨(i+1,(min lo (shiftV (bndLo a0.weights.l 0 mx) sh)),(max up (shiftV (bndHi a0.weights.l 0 mx) sh))),od,alB,(k0.dropAt 0 rfl),om,by
    have e1:=runLo_at (spLo mx sh) (map_at (f:=Tap.v) c0) om;have e2:=runHi_at (spHi mx sh) (map_at (f:=Tap.v) c0) om
    exact ⟨by rw [e1,<-hr.1];rfl,by rw [e2,<-hr.2];rfl⟩,all_succ hE (map_at (f:=Tap.v) c0) (by simp only [Tap.v];simp_all)⟩
 exact jCO 10 rfl<|stepY (I (min (shiftV (bndLo a0.weights.l 0 mx) sh) (shiftV (bndLo a0.weights.l 0 mx) sh))) rfl rfl (Y_min2 (shiftV (bndLo a0.weights.l 0 mx) sh) (shiftV (bndLo a0.weights.l 0 mx) sh) rfl rfl kr kr)<|pu2<|stepY (I (max (shiftV (bndHi a0.weights.l 0 mx) sh) (shiftV (bndHi a0.weights.l 0 mx) sh))) rfl rfl (Y_max2 (shiftV (bndHi a0.weights.l 0 mx) sh) (shiftV (bndHi a0.weights.l 0 mx) sh) rfl rfl kr kr)<|jOO 6 rfl<|sAdd (i:Int) 1<|jOI 2 rfl<|⟨(i+1,(min (shiftV (bndLo a0.weights.l 0 mx) sh) (shiftV (bndLo a0.weights.l 0 mx) sh)),(max (shiftV (bndHi a0.weights.l 0 mx) sh) (shiftV (bndHi a0.weights.l 0 mx) sh))),od,alB,(k0.dropAt 0 rfl),om,by
   have E0:i=0:=by omega
   subst E0
   have e1:=runLo_one (spLo mx sh) (map_at (f:=Tap.v) c0);have e2:=runHi_one (spHi mx sh) (map_at (f:=Tap.v) c0)
   rw [e1,e2];simp only [spLo,spHi,Tap.v];omega,all_succ hE (map_at (f:=Tap.v) c0) (by simp only [Tap.v];simp_all)⟩
theorem p11_check (s:Shape) (ax:Option Addr) (nx kx:Nat) (x:List Tap) (ay:Option Addr) (ny ky:Nat) (y:List Tap) (sh:Int) (sh2:Int) (out:Int) (hx:RdT encTap 2 [H] ax nx kx x) (dx:∀z∈x,Tap.Ok [H] z) (hy:RdT encTap 2 [H] ay ny ky y) (dy:∀z∈y,Tap.Ok [H] z) (hS:Sat W w (H::F)):
  Ro prog 132 #[.agg #[I s.w,I s.h,I s.max_], .slice ax nx kx, .slice ay ny ky,I sh,I sh2,I out] (I (resCode s.w s.h s.max_ (x.map Tap.v) (y.map Tap.v) sh sh2 out)) W w (H::F):=by
 have B0:=hx.le;have z0:=hx.len
 have C0:=hy.le;have A0:=hy.len
 refine callsK 77 func132 rfl<|jCO 2 rfl<|sBx hS [I s.w,I s.h,I s.max_] fun _ _ j0=>gOO j0 9 [0] rfl<|cS (p8_valid ax nx kx x s.w (hx.fl 1) (fun z hz=>(dx z hz).of_mem (mF 1)) j0.flat) fun _ g0=>jOC 9 rfl<|CN (tapsCode (x.map Tap.v) s.w) 0 (fun b0=>jCR 8 rfl<|retT [I (tapsCode (x.map Tap.v) s.w)]<|(by have l0:=(g0.dropAt 0 rfl);have hk:resCode s.w s.h s.max_ (x.map Tap.v) (y.map Tap.v) sh sh2 out=(tapsCode (x.map Tap.v) s.w):=(by unfold resCode;rw [if_neg b0]);exact ⟨by rw [hk];rfl,l0⟩)) fun b0=>gCO g0 8 [0] rfl<|cS (p8_valid ay ny ky y s.h (hy.fl 1) (fun z hz=>(dy z hz).of_mem (mF 1)) g0.flat) fun _ k0=>jOC 9 rfl<|CN (tapsCode (y.map Tap.v) s.h) 0 (fun c0=>jCR 8 rfl<|retT [I (tapsCode (y.map Tap.v) s.h)]<|(by have m0:=(k0.dropAt 0 rfl);have hk:resCode s.w s.h s.max_ (x.map Tap.v) (y.map Tap.v) sh sh2 out=(tapsCode (y.map Tap.v) s.h):=(by unfold resCode;rw [if_pos b0,if_neg c0]);exact ⟨by rw [hk];rfl,m0⟩)) fun c0=>jCC 4 rfl ?_
 have F0:=tapsCode_len (l:=x.map Tap.v) (n:=s.w) om;have G0:=tapsCode_len (l:=y.map Tap.v) (n:=s.h) om
 have D0:(x.map Tap.v).length=nx:=by simp [z0]
 have E0:(y.map Tap.v).length=ny:=by simp [A0]
 have y0:mulOK (nx:Int) (ny:Int) 4096=true↔(((x.map Tap.v).length:Nat):Int)*(((y.map Tap.v).length:Nat):Int)<=4096:=by rw [D0,E0];unfold mulOK;rw [decide_eq_true_eq];omega
 refine jCO 5 rfl<|cS (p1_mul (nx:Int) (ny:Int) 4096 (od) k0.flat) fun _ d0=>jOC 13 rfl<|CBn (mulOK (nx:Int) (ny:Int) 4096) (fun e0=>jCR 7 rfl<|retT [I 8]<|(by have n0:=(d0.dropAt 0 rfl);have hk:resCode s.w s.h s.max_ (x.map Tap.v) (y.map Tap.v) sh sh2 out=8:=(by unfold resCode;rw [if_pos b0,if_pos c0,if_neg (fun h=>e0 (y0.2 h))]);exact ⟨by rw [hk];rfl,n0⟩)) fun e0=>jCC 3 rfl<|cutF d0 0 [1,2,3,5,6] (γ:=Unit) (fun _ R=>⟨[(54, .bool (decide (¬((0<=sh/\sh<=24)/\0<=sh2/\sh2<=24))))],R,0,True⟩) ?_ ?_
 ·exact jCO 4 rfl<|sD 43 (sh<0) (fun o0=>jOI 12 rfl<|⟨(),⟨⟨(Eq.trans (b:= .bool true) kr (congrArg Value.bool (decide_eq_true (p:=¬((0<=sh/\sh<=24)/\0<=sh2/\sh2<=24)) om).symm)),trivial⟩,sA⟩,d0,trivial⟩) fun o0=>pu4<|sD 47 (sh>24) (fun p0=>jOI 8 rfl<|⟨(),⟨⟨(Eq.trans (b:= .bool true) kr (congrArg Value.bool (decide_eq_true (p:=¬((0<=sh/\sh<=24)/\0<=sh2/\sh2<=24)) om).symm)),trivial⟩,sA⟩,d0,trivial⟩) fun p0=>pu4<|sD 51 (sh2<0) (fun q0=>jOI 4 rfl<|⟨(),⟨⟨(Eq.trans (b:= .bool true) kr (congrArg Value.bool (decide_eq_true (p:=¬((0<=sh/\sh<=24)/\0<=sh2/\sh2<=24)) om).symm)),trivial⟩,sA⟩,d0,trivial⟩) fun q0=>jOI 4 rfl<|⟨(),⟨⟨(Eq.trans (b:= .bool (decide (sh2>24))) kr (congrArg Value.bool bm)),trivial⟩,sA⟩,d0,trivial⟩
 rintro _ ρ _ ⟨a0,_⟩
 refine cD (¬((0<=sh/\sh<=24)/\0<=sh2/\sh2<=24)) (fun f0=>jCR 7 rfl<|retT [I 10]<|(by have r0:=(a0.dropAt 0 rfl);have hk:resCode s.w s.h s.max_ (x.map Tap.v) (y.map Tap.v) sh sh2 out=10:=(by unfold resCode;rw [if_pos b0,if_pos c0,if_pos (y0.1 e0),if_neg f0]);exact ⟨by rw [hk];rfl,r0⟩)) fun f0=>jCC 3 rfl<|cutF a0 0 [1,2,3,6] (γ:=Unit) (fun _ R=>⟨[(70, .bool (decide (¬((1<=s.max_/\s.max_<=4294967296)/\1<=out/\out<=4294967296))))],R,0,True⟩) ?_ ?_
 rotate_left
 · exact (by rintro _ ρ _ ⟨h0,_⟩;refine cD (¬((1<=s.max_/\s.max_<=4294967296)/\1<=out/\out<=4294967296)) (fun i0=>jCR 7 rfl<|retT [I 2]<|(by have s0:=(h0.dropAt 0 rfl);have hk:resCode s.w s.h s.max_ (x.map Tap.v) (y.map Tap.v) sh sh2 out=2:=(by unfold resCode;rw [if_pos b0,if_pos c0,if_pos (y0.1 e0),if_pos (Classical.not_not.1 f0),if_neg i0]);exact ⟨by rw [hk];rfl,s0⟩)) fun i0=>gCO h0 9 [0] rfl<|cS (p11_acc ax nx kx x ay ny ky y s.max_ sh (hx.fl 1) (fun z hz=>(dx z hz).of_mem (mF 1)) (hy.fl 1) (fun z hz=>(dy z hz).of_mem (mF 1)) h0.flat) fun _ t0=>jOR 4 rfl<|retT [I (accCode (x.map Tap.v) (y.map Tap.v) s.max_ sh)] ?_;have u0:=(t0.dropAt 0 rfl);have hk:resCode s.w s.h s.max_ (x.map Tap.v) (y.map Tap.v) sh sh2 out=(accCode (x.map Tap.v) (y.map Tap.v) s.max_ sh):=(by unfold resCode;rw [if_pos b0,if_pos c0,if_pos (y0.1 e0),if_pos (Classical.not_not.1 f0),if_pos (Classical.not_not.1 i0)];rfl);exact ⟨by rw [hk];rfl,u0⟩)
 exact gCO a0 5 [0] rfl<|sD 58 (s.max_<1) (fun v0=>jOI 13 rfl<|⟨(),⟨⟨(Eq.trans (b:= .bool true) kr (congrArg Value.bool (decide_eq_true (p:=¬((1<=s.max_/\s.max_<=4294967296)/\1<=out/\out<=4294967296)) om).symm)),trivial⟩,sA⟩,a0,trivial⟩) fun v0=>gOO a0 5 [0] rfl<|sD 63 (s.max_>4294967296) (fun w0=>jOI 8 rfl<|⟨(),⟨⟨(Eq.trans (b:= .bool true) kr (congrArg Value.bool (decide_eq_true (p:=¬((1<=s.max_/\s.max_<=4294967296)/\1<=out/\out<=4294967296)) om).symm)),trivial⟩,sA⟩,a0,trivial⟩) fun w0=>pu4<|sD 67 (out<1) (fun x0=>jOI 4 rfl<|⟨(),⟨⟨(Eq.trans (b:= .bool true) kr (congrArg Value.bool (decide_eq_true (p:=¬((1<=s.max_/\s.max_<=4294967296)/\1<=out/\out<=4294967296)) om).symm)),trivial⟩,sA⟩,a0,trivial⟩) fun x0=>jOI 4 rfl<|⟨(),⟨⟨(Eq.trans (b:= .bool (decide (out>4294967296))) kr (congrArg Value.bool bm)),trivial⟩,sA⟩,a0,trivial⟩
def intCode (w h m:Int):Int:=if mostOK w h m=true then 0 else 11
theorem most_eq {w h m:Int} (h1:1<=w/\1<=h/\1<=m) (h2:mulOK w h 4294967296=true):mostOK w h m=mulOK (mulV w h 4294967296) m 4294967296/\mostV w h m=mulV (mulV w h 4294967296) m 4294967296:=by
  have hx:=of_decide_eq_true h2
  have hp:=Int.mul_pos (a:=w) (b:=h) (by omega) (by omega)
  have e0:mulV w h 4294967296=w*h:=by unfold mulV;rw [if_pos h2]
  rw [e0]
  have e:mostOK w h m=mulOK (w*h) m 4294967296:=by unfold mostOK mulOK;exact decide_eq_decide.2 (by omega)
  exact ⟨e,by unfold mostV mulV;rw [e]⟩
theorem most_no {w h m:Int} (h1:¬(1<=w/\1<=h/\1<=m)\/¬mulOK w h 4294967296=true):mostOK w h m=false/\mostV w h m=0:=by
  apply most_f
  intro hx
  rcases h1 with h1|h1
  · omega
  · exact h1 (decide_eq_true (by omega))
theorem p13_most (s:Shape) (hS:Sat W w (H::F)):
  Ro prog 186 #[.agg #[I s.w,I s.h,I s.max_]] (.tuple #[I (mostV s.w s.h s.max_), .bool (mostOK s.w s.h s.max_)]) W w (H::F):=by
 refine callsK 35 func186 rfl<|jCO 2 rfl<|sBx hS [I s.w,I s.h,I s.max_] fun _ _ a0=>gOO a0 11 [0] rfl<|sD 9 (s.w<1) (fun d0=>jOR 20 rfl<|retT [I 0, .bool false]<|(by have e0:=(a0.dropAt 0 rfl);obtain ⟨e1,e2⟩:=most_no (w:=s.w) (h:=s.h) (m:=s.max_) (.inl om);exact ⟨by rw [e1,e2];rfl,e0⟩)) fun d0=>gOO a0 5 [0] rfl<|sD 14 (s.h<1) (fun f0=>jOR 15 rfl<|retT [I 0, .bool false]<|(by have g0:=(a0.dropAt 0 rfl);obtain ⟨e1,e2⟩:=most_no (w:=s.w) (h:=s.h) (m:=s.max_) (.inl om);exact ⟨by rw [e1,e2];rfl,g0⟩)) fun f0=>gOC a0 6 [0] rfl<|cD (s.max_<1) (fun h0=>jCR 8 rfl<|retT [I 0, .bool false]<|(by have i0:=(a0.dropAt 0 rfl);obtain ⟨e1,e2⟩:=most_no (w:=s.w) (h:=s.h) (m:=s.max_) (.inl om);exact ⟨by rw [e1,e2];rfl,i0⟩)) fun h0=>gCO a0 8 [0,0] rfl<|cS (p1_mul s.w s.h 4294967296 (od) a0.flat) fun _ b0=>jOC 14 rfl<|CBn (mulOK s.w s.h 4294967296) (fun c0=>jCR 8 rfl<|retT [I 0, .bool false]<|(by have j0:=(b0.dropAt 0 rfl);obtain ⟨e1,e2⟩:=most_no (w:=s.w) (h:=s.h) (m:=s.max_) (.inr c0);exact ⟨by rw [e1,e2];rfl,j0⟩)) fun c0=>gCO b0 7 [0] rfl<|cS (p1_mul (mulV s.w s.h 4294967296) s.max_ 4294967296 (od) b0.flat) fun _ k0=>jOR 7 rfl<|retT [I (mulV (mulV s.w s.h 4294967296) s.max_ 4294967296), .bool (mulOK (mulV s.w s.h 4294967296) s.max_ 4294967296)] ?_
 have l0:=(k0.dropAt 0 rfl)
 obtain ⟨e1,e2⟩:=most_eq (w:=s.w) (h:=s.h) (m:=s.max_) om c0
 exact ⟨by rw [e1,e2];rfl,l0⟩
theorem p13_check (s:Shape) (hS:Sat W w (H::F)):
  Ro prog 157 #[.agg #[I s.w,I s.h,I s.max_]] (I (intCode s.w s.h s.max_)) W w (H::F):=by
 exact callsK 12 func157 rfl<|jCO 2 rfl<|sBx hS [I s.w,I s.h,I s.max_] fun _ _ a0=>gOO a0 7 [300] rfl<|cS (p13_most s a0.flat) fun _ b0=>jOC 13 rfl<|CBn (mostOK s.w s.h s.max_) (fun c0=>jCR 7 rfl<|retT [I 11]<|⟨(by unfold intCode;exact ssp),(b0.dropAt 0 rfl)⟩) fun c0=>jCR 8 rfl<|retT [I 0]<|⟨(by unfold intCode;exact ssp),(b0.dropAt 0 rfl)⟩
end Go.Proofs.YtghcddbhllkbmaaGreat

namespace Go.Proofs.YtghcddbhllkbmaaGreat
open Go Go.E Go.Proofs.Tryz
set_option linter.all false
set_option maxRecDepth 100000
set_option maxHeartbeats 2000000
variable {W w:World} {H:Chunk} {F:List Chunk}
def numB (z:Int):Prop:=-4611686018427387904<=z/\z<=4611686018427387904
theorem nb {z:Int} (h:numB z:=by unfold numB;first|omega|(dsimp only;omega)):numB z:=h
def tapB (t:Tap):Prop:=numB t.first/\t.weights.l.length<=9/\∀z∈t.weights.l,numB z
theorem mem_set {α:Type} {P:α->Prop} {l:List α} {i:Nat} {x:α} (h:∀z∈l,P z) (hx:P x):∀z∈l.set i x,P z:=by
  intro z hz
  rcases List.mem_or_eq_of_mem_set hz with h1|h1
  · exact h z h1
  · rw [h1];exact hx
theorem set_self_at {α:Type} {l:List α} {i:Nat} {x y:α} (h:(l.set i x)[i]?=some y):y=x:=by
  have hl:i<(l.set i x).length:=(List.getElem?_eq_some_iff.1 h).1
  rw [List.length_set] at hl
  rw [List.getElem?_set_self hl] at h
  exact (Option.some.inj h).symm
theorem tdiv_bd {a b A:Int} (ha:0<=a/\a<=A) (hb:0<b):0<=a.tdiv b/\a.tdiv b<=A:=by
  rw [Int.tdiv_eq_ediv_of_nonneg ha.1]
  refine ⟨Int.ediv_nonneg ha.1 (by omega),Int.le_trans (Int.ediv_le_self _ ha.1) ha.2⟩
theorem mem_snoc {α:Type} {P:α->Prop} {l:List α} {x:α} (h:∀z∈l,P z) (hx:P x):∀z∈l++[x],P z:=by
  intro z hz
  rcases List.mem_append.1 hz with h1|h1
  · exact h z h1
  · simp only [List.mem_singleton] at h1;rw [h1];exact hx
theorem r8_divide (W w:World) (H:Chunk) (F:List Chunk) (tot:Int) (ax:Option Addr) (nx kx:Nat) (x:List Int) (hx:RdT Go.E.encI 1 [H] ax nx kx x) (ht:0<=tot/\tot<=16384) (hp:∀z∈x,1<=z/\z<=16384) (h0:1<=nx/\nx<=200) (hS:Sat W w (H::F)):
  Calls prog 142 #[I tot, .slice ax nx kx] w fun e w'=>∃(az:Option Addr) (nz kz:Nat) (G:Chunk) (zs:List Int),e= .returned (.slice az nz kz)/\RdT Go.E.encI 1 [G] az nz kz zs/\(zs.length=nx/\∀z∈zs,numB z)/\Sat W w' (G::H::F):=by
 have v1:=hx.ll
 refine callsK 96 func142 rfl<|jCC 17 rfl<|loopF [0,1] (γ:=Nat×Int) (fun ⟨i,s⟩ R=>⟨[(6,I (i:Int)),(5,I s)],R,nx-i,i<=nx/\((i:Int)<=s/\s<=16384*(i:Int))⟩) (0,0) ⟨hS,om,om⟩ ?_
 rintro ⟨i,s⟩ ρ _ ⟨d0,hi,hs⟩
 refine jCC 9 rfl<|cD ((i:Int)<(nx:Int)) (fun b1=>jCO 8 rfl<|sIN hx i fun c0 _ _ i0 d1=>(by have W0:=hp c0 (List.mem_of_getElem? i0);have S0:=mul_bd (a:=tot) (b:=c0) (A:=16384) (B:=16384) om om;exact sMp d0 (d1.up 0 rfl) 0 (I c0)<|sAdd s c0<|jOO 6 rfl<|sAdd (i:Int) 1<|jOI 2 rfl<|⟨(i+1,(s+c0)),od,alB,d0,om,om⟩)) fun b1=>jCC 5 rfl<|cutF d0 0 [0,1,5] (γ:=(Option Addr)×Chunk×(Option Addr)×Chunk) (fun ⟨a1,c1,a2,c2⟩ R=>⟨[(7, .slice a1 nx nx),(8, .slice a2 nx nx)],c1::c2::R,0,OwnT Go.E.encI 3 1 a1 nx nx (List.replicate nx 0) c1/\OwnT Go.E.encI 3 1 a2 nx nx (List.replicate nx 0) c2⟩) ?_ ?_
 ·refine drawG d0 [2,5] (fn) (pS [0,1,3,4]<| .fk 2 5 (pS [6]<| .ef 5<|pS [7]<| .fin) (.ef 2<|pS [6,7]<| .fin)) fun _ j0=>qV 4<|qF ?_ ?_
  rotate_left
  ·exact qO rfl<|sMake (kl:= .i64) (kc:= .i64) (enc:=Go.E.encI) (sz:=1) (nb:=8) j0 0 nx (nx:Int) (rfl:(nx:Int)=(nx:Int)) underlying22 (i:=Tryz.t3) kr fR fun e1 f1 _ g1 h1=>nA<|qO rfl<|sMake (kl:= .i64) (kc:= .i64) (enc:=Go.E.encI) (sz:=1) (nb:=8) h1 0 nx (nx:Int) (rfl:(nx:Int)=(nx:Int)) underlying22 (i:=Tryz.t3) kr fR fun i1 j1 _ k1 l1=>nA<|qV 2<|qN<|jXI 0 rfl<|⟨((At i1 0),j1,(At e1 0),f1),alB,l1,k1,g1⟩
  exact qO rfl<|sMake (kl:= .i64) (kc:= .i64) (enc:=Go.E.encI) (sz:=1) (nb:=8) j0 0 nx (nx:Int) (rfl:(nx:Int)=(nx:Int)) underlying22 (i:=Tryz.t3) kr fR fun m1 n1 _ o1 q1=>nA<|qV 1<|qO rfl<|sMake (kl:= .i64) (kc:= .i64) (enc:=Go.E.encI) (sz:=1) (nb:=8) q1 0 nx (nx:Int) (rfl:(nx:Int)=(nx:Int)) underlying22 (i:=Tryz.t3) kr fR fun r1 s1 _ t1 u1=>nA<|qV 1<|qN<|jXI 0 rfl<|⟨((At m1 0),n1,(At r1 0),s1),alB,(u1.pick 1 rfl),o1,t1⟩
 rintro ⟨a1,c1,a2,c2⟩ ρ _ ⟨w1,Y0,Z0⟩
 refine jCC 13 rfl<|loopF [0,1,5] (γ:=Nat×Int×(List Int)×(Option Addr)×Nat×Nat×Chunk×(List Int)×SO) (fun ⟨i,lf,zs,D0,G0,E0,J0,ys,H0,F0,I0,K0⟩ R=>⟨[(10,I (i:Int)),(9,I lf),(7, .slice D0 G0 E0),(8, .slice H0 F0 I0)],J0::K0::R,nx-i,i<=nx/\(∀z∈zs,0<=z/\z<=268435456+0)/\(lf<=tot/\-(268435456*(i:Int))<=lf)/\(zs.length=nx/\ys.length=nx)/\OwnT Go.E.encI 3 1 D0 G0 E0 zs J0/\OwnT Go.E.encI 3 1 H0 F0 I0 ys K0⟩) (0,tot,(List.replicate nx 0),a1,nx,nx,c1,(List.replicate nx 0),a2,nx,nx,c2) ⟨w1,om,by intro z hz;have:=List.eq_of_mem_replicate hz;omega,om,by simp,Y0,Z0⟩ ?_
 rintro ⟨i,lf,zs,D0,G0,E0,J0,ys,H0,F0,I0,K0⟩ ρ _ ⟨k0,hi,hZ,C1,B1,C0,B0⟩
 have O0:=C0.len;have M0:=C0.le
 have N0:=B0.len;have L0:=B0.le
 refine jCC 9 rfl<|cD ((i:Int)<(nx:Int)) (fun x1=>?_) (fun x1=>?_)
 ·refine jCC 5 rfl ?_
  obtain ⟨a0,r3,s3,l0,m0,n0⟩:=RdT.eN hx i
  have R0:=hp a0 (List.mem_of_getElem? l0);have P0:=mul_bd (a:=tot) (b:=a0) (A:=16384) (B:=16384) om om;have T0:=tdiv_bd (a:=tot*a0) (b:=s) (A:=268435456) om om
  obtain ⟨o0,u3,v3,e0,y1,p0,z1⟩:=OwnT.eN C0 i
  have U0:=hZ o0 (List.mem_of_getElem? e0)
  obtain ⟨b2,w3,x3,q0,d2,r0,e2⟩:=OwnT.eN B0 i
  refine drawF k0 [21,23] (fq 8 0 (m0.up 2 rfl)<|fq 16 0 (m0.up 2 rfl)<|fn) [0,1,2,3,4,5,6,7,10,12,13,14,15,18,8,9,11,16,17,19,20,21,22,23] fun _ f2=>wV 7<|wI n0<|wV 4<|wI n0<|wV 1<|wL 0<|wMul tot a0<|wQuo (tot*a0) s<|wL 1<|wMul tot a0<|wRem (tot*a0) s<|wI p0<|wO rfl<|sStF f2 C0 z1 0 i 0 o0 ((tot*a0).tdiv s) e0 (I ((tot*a0).tdiv s)) [I ((tot*a0).tdiv s)] sizeOf3 fun _ g2 s0 h2=>nA<|wI r0<|wO rfl<|sStF h2 B0 e2 1 i 0 b2 ((tot*a0).tmod s) q0 (I ((tot*a0).tmod s)) [I ((tot*a0).tmod s)] sizeOf3 fun _ i2 j2 t0=>nA<|wN<|jXO 5 rfl<|sIO s0 (i:Int) i fun f0 _ _ k2 l2 _=>?_
  have Q0:=set_self_at k2
  refine sMp t0 (l2.up 0 rfl) 0 (I f0)<|sSub lf f0<|jOO 6 rfl<|sAdd (i:Int) 1<|jOI 2 rfl ?_
  exact ⟨(i+1,(lf-f0),(zs.set i ((tot*a0).tdiv s)),D0,G0,E0,g2,(ys.set i ((tot*a0).tmod s)),H0,F0,I0,i2),od,alB,t0,om,mem_set hZ (by first|omega|(refine ⟨?_,?_⟩<;>omega)),om,by simp;omega,s0,j2⟩
 refine jCC 7 rfl<|loopF [] (γ:=Nat×Int×(List Int)×(Option Addr)×Nat×Nat×Chunk×(List Int)×SO) (fun ⟨u,lf,zs,D0,G0,E0,J0,ys,H0,F0,I0,K0⟩ R=>⟨[(9,I lf),(7, .slice D0 G0 E0),(8, .slice H0 F0 I0)],J0::K0::R,16384-u,u<=16384/\(∀z∈zs,0<=z/\z<=268435456+(u:Int))/\((u:Int)+lf<=16384/\-(268435456*200)<=lf)/\(zs.length=nx/\ys.length=nx)/\OwnT Go.E.encI 3 1 D0 G0 E0 zs J0/\OwnT Go.E.encI 3 1 H0 F0 I0 ys K0⟩) (0,lf,zs,D0,G0,E0,J0,ys,H0,F0,I0,K0) ⟨k0,om,by intro z hz;have:=hZ z hz;omega,om,om,C0,B0⟩ ?_
 rintro ⟨u,lf,zs,D0,G0,E0,J0,ys,H0,F0,I0,K0⟩ ρ _ ⟨u0,hu,hZ,A1,B1,C0,B0⟩
 have O0:=C0.len;have M0:=C0.le
 have N0:=B0.len;have L0:=B0.le
 refine jCC 7 rfl<|CD (lf>0) (fun m2=>jCR 12 rfl<|retT [.slice D0 G0 E0]<|⟨_,_,_,_,_,rfl,(C0.rdAt (cs:=[J0]) 0 rfl),⟨om,fun z hz=>by have h:=hZ z hz;unfold numB;omega⟩,(u0.dropAt 1 rfl)⟩) fun m2=>jCC 16 rfl<|loopF [9,7,8] (γ:=Nat×Int) (fun ⟨k,A0⟩ R=>⟨[(12,I (k:Int)),(11,I A0)],R,nx-k,k<=nx/\(0<=A0/\A0<(nx:Int))⟩) (1,0) ⟨u0,om,om⟩ ?_
 rintro ⟨k,A0⟩ ρ _ ⟨g0,hk,X0⟩
 refine jCC 9 rfl<|cD ((k:Int)<(F0:Int)) (fun o2=>jCC 5 rfl<|(by obtain ⟨q2,f4,g4,r2,v0,w0,h4⟩:=OwnT.eN B0 k;obtain ⟨s2,i4,j4,k4,t2,u2,l4⟩:=OwnT.elem B0 A0;exact drawF g0 [] (fq 3 0 (v0.up 1 rfl)<|fq 7 0 (t2.up 1 rfl)<|fn) [0,1,2,4,5,6,3,7,8] fun _ x0=>wV 2<|wI w0<|wV 2<|wI u2<|wL 0<|wL 1<|wV 1<|wN<|jXC 1 rfl<|CD (q2>s2) (fun v2=>jCO 5 rfl<|sAdd (k:Int) 1<|jOI 2 rfl<|⟨(k+1,A0),od,alB,x0,om,om⟩) fun v2=>jCO 8 rfl<|sAdd (k:Int) 1<|jOI 2 rfl<|⟨(k+1,(k:Int)),od,alB,x0,om,om⟩)) fun o2=>jCO 9 rfl<|sIO C0 A0 (A0).toNat fun b0 _ _ y0 w2 _=>?_
 have V0:=hZ b0 (List.mem_of_getElem? y0)
 refine sMp g0 (w2.up 0 rfl) 0 (I b0)<|sAdd b0 1<|sIO C0 A0 (A0).toNat fun x2 _ _ z0 _ y2=>?_
 obtain rfl:b0=x2:=Option.some.inj (y0.symm.trans z0)
 exact sStF g0 C0 y2 0 (A0).toNat 0 b0 (b0+1) z0 (I (b0+1)) [I (b0+1)] sizeOf3 fun _ z2 a3 b3=>jOO 5 rfl<|sIO B0 A0 (A0).toNat fun c3 _ _ d3 _ e3=>sStF b3 B0 e3 1 (A0).toNat 0 c3 (-1) d3 (I (-1)) [I (-1)] sizeOf3 fun _ f3 g3 h3=>jOO 5 rfl<|sSub lf 1<|jOI 2 rfl<|⟨(u+1,(lf-1),(zs.set ((A0).toNat) (b0+1)),D0,G0,E0,z2,(ys.set ((A0).toNat) (-1)),H0,F0,I0,f3),od,alB,h3,om,mem_set (fun z hz=>by have:=hZ z hz;omega) om,om,by simp;omega,a3,g3⟩
theorem tdiv_abs {x d A:Int} (hx:-A<=x/\x<=A):-A<=x.tdiv d/\x.tdiv d<=A:=by
  have h:(x.tdiv d).natAbs<=x.natAbs:=by rw [Int.natAbs_tdiv];exact Nat.div_le_self _ _
  omega
theorem le_mul_pos {k m:Int} (hk:0<=k) (hm:1<=m):k<=k*m:=by
  have:=Int.mul_le_mul_of_nonneg_left hm hk
  omega
theorem r8_linear (W w:World) (H:Chunk) (F:List Chunk) (n0 m0 sh:Int) (hS:Sat W w (H::F)):
  Calls prog 98 #[I n0,I m0,I sh] w fun e w'=>∃(az:Option Addr) (nz kz:Nat) (zs:List Tap) (cd:Int) (c G:Chunk),e= .returned (.tuple #[.slice az nz kz,I cd])/\OwnT encTap 121 2 az nz kz zs c/\(∀z∈zs,Tap.Ok [G] z)/\((zs.length:Int)<=max m0 0/\∀z∈zs,tapB z)/\Sat W w' (G::c::H::F):=by
 refine callsK 80 func98 rfl<|jCO 10 rfl<|cS (r8_side n0 hS.flat) fun _ e0=>pu2<|SDn 18 ((1:Int)<=n0/\n0<=(128:Int)) (fun h0=>jOR 15 rfl<|retT [nS,I 8]<|(by have i0:Sat W _ ([]::[]::H::F):=Sat.nilc (Sat.nilc e0);exact ⟨none,0,0,[],_,[],[],rfl,OwnT.nil fR,(fun z hz=>by cases hz),⟨by simp;omega,(fun z hz=>by cases hz)⟩,i0⟩)) fun h0=>pu1<|gY<|cS (r8_side m0 e0.flat) fun _ c0=>jOC 4 rfl<|CDn ((1:Int)<=m0/\m0<=(128:Int)) (fun j0=>jCR 8 rfl<|retT [nS,I 8]<|(by have k0:Sat W _ ([]::[]::H::F):=Sat.nilc (Sat.nilc c0);exact ⟨none,0,0,[],_,[],[],rfl,OwnT.nil fR,(fun z hz=>by cases hz),⟨by simp;omega,(fun z hz=>by cases hz)⟩,k0⟩)) fun j0=>jCO 8 rfl<|sD 25 (sh<0) (fun l0=>jOR 14 rfl<|retT [nS,I 2]<|(by have o0:Sat W _ ([]::[]::H::F):=Sat.nilc (Sat.nilc c0);exact ⟨none,0,0,[],_,[],[],rfl,OwnT.nil fR,(fun z hz=>by cases hz),⟨by simp;omega,(fun z hz=>by cases hz)⟩,o0⟩)) fun l0=>jOC 5 rfl<|cD (sh>14) (fun p0=>jCR 8 rfl<|retT [nS,I 2]<|(by have q0:Sat W _ ([]::[]::H::F):=Sat.nilc (Sat.nilc c0);exact ⟨none,0,0,[],_,[],[],rfl,OwnT.nil fR,(fun z hz=>by cases hz),⟨by simp;omega,(fun z hz=>by cases hz)⟩,q0⟩)) fun p0=>jCC 14 rfl ?_
 refine loopF [0,1,2] (γ:=Nat×(List Tap)×(Option Addr)×Nat×Nat×Chunk×Chunk) (fun ⟨i,zs,B0,A0,C0,D0,s0⟩ R=>⟨[(9,I (i:Int)),(8, .slice B0 A0 C0)],s0::D0::R,m0.toNat-i,i<=m0.toNat/\(∀z∈zs,tapB z)/\(zs.length=i)/\OwnT encTap 121 2 B0 A0 C0 zs D0/\(∀z∈zs,Tap.Ok [s0] z)⟩) (0,[],none,0,0,[],[]) ⟨(Sat.nilc (Sat.nilc c0)),om,(by intro z hz;cases hz),by rfl,(OwnT.nil (enc:=encTap) (E:=121) (sz:=2) fR),(by intro z hz;cases hz)⟩ ?_
 rintro ⟨i,zs,B0,A0,C0,D0,s0⟩ ρ _ ⟨d0,hi,hB,P0,r0,t0⟩
 have E0:=r0.ll
 refine jCC 8 rfl<|CD ((i:Int)<m0) (fun u0=>jCR 13 rfl<|retT [.slice B0 A0 C0,I 0]<|⟨_,_,_,zs,_,_,_,rfl,r0,t0,⟨om,hB⟩,d0⟩) fun u0=>jCC 5 rfl ?_
 have J0:=mul_bd (a:=((2*(i:Int))+1)) (b:=n0) (A:=257) (B:=128) om om
 refine jCO 2 rfl<|sMul 2 (i:Int)<|sAdd (2*(i:Int)) 1<|pu1<|sMul ((2*(i:Int))+1) n0<|pu1<|sSub (((2*(i:Int))+1)*n0) m0<|pu1<|sMul 2 m0<|jOO 8 rfl<|sQuo ((((2*(i:Int))+1)*n0)-m0) (2*m0)<|jOC 5 rfl ?_
 have hq:=Int.mul_tdiv_add_tmod ((((2*(i:Int))+1)*n0)-m0) (2*m0);have K0:=Int.tmod_lt_of_pos ((((2*(i:Int))+1)*n0)-m0) (by omega:0<(2*m0));have L0:=Int.lt_tmod_of_pos ((((2*(i:Int))+1)*n0)-m0) (by omega:0<(2*m0));have M0:=Int.mul_comm (((((2*(i:Int))+1)*n0)-m0).tdiv (2*m0)) (2*m0);have N0:=tdiv_abs (x:=((((2*(i:Int))+1)*n0)-m0)) (d:=(2*m0)) (A:=65536) om;have O0:(((((2*(i:Int))+1)*n0)-m0).tdiv (2*m0)-1)*(2*m0)=((((2*(i:Int))+1)*n0)-m0).tdiv (2*m0)*(2*m0)-(2*m0):=by rw [Int.sub_mul,Int.one_mul]
 refine jCO 3 rfl<|sMul (((((2*(i:Int))+1)*n0)-m0).tdiv (2*m0)) (2*m0)<|jOC 4 rfl<|cD (((((((2*(i:Int))+1)*n0)-m0).tdiv (2*m0))*(2*m0))>((((2*(i:Int))+1)*n0)-m0)) (fun v0=>?_) (fun v0=>?_)
 rotate_left
 ·refine jCO 5 rfl<|stepY (.int .u64 sh) rfl rfl (Y_conv (k:= .i64) (a:=sh) underlying3 underlying164 (wrapIn_u64 _ om) rfl kr)<|stepY (I (2^(sh).toNat)) rfl rfl (Y_shl1 (k':= .u64) sh rfl kr kr om)<|jOC 4 rfl ?_
  have G0:=pow2_pos sh.toNat;have H0:=pow2_le (a:=sh.toNat) (b:=14) om
  have F0:=mul_abs (a:=(2*(((((2*(i:Int))+1)*n0)-m0)-((((((2*(i:Int))+1)*n0)-m0).tdiv (2*m0))*(2*m0))))) (b:=(2^(sh).toNat)) (A:=2048) (B:=16384) om om
  have I0:=tdiv_abs (x:=(((2*(((((2*(i:Int))+1)*n0)-m0)-((((((2*(i:Int))+1)*n0)-m0).tdiv (2*m0))*(2*m0))))*(2^(sh).toNat))+(2*m0))) (d:=(2*(2*m0))) (A:=67108864) om
  refine jCO 4 rfl<|sMul (((((2*(i:Int))+1)*n0)-m0).tdiv (2*m0)) (2*m0)<|sSub ((((2*(i:Int))+1)*n0)-m0) ((((((2*(i:Int))+1)*n0)-m0).tdiv (2*m0))*(2*m0))<|sMul 2 (((((2*(i:Int))+1)*n0)-m0)-((((((2*(i:Int))+1)*n0)-m0).tdiv (2*m0))*(2*m0)))<|pu1<|sMul (2*(((((2*(i:Int))+1)*n0)-m0)-((((((2*(i:Int))+1)*n0)-m0).tdiv (2*m0))*(2*m0)))) (2^(sh).toNat)<|pu1<|sAdd ((2*(((((2*(i:Int))+1)*n0)-m0)-((((((2*(i:Int))+1)*n0)-m0).tdiv (2*m0))*(2*m0))))*(2^(sh).toNat)) (2*m0)<|pu1<|sMul 2 (2*m0)<|sQuo (((2*(((((2*(i:Int))+1)*n0)-m0)-((((((2*(i:Int))+1)*n0)-m0).tdiv (2*m0))*(2*m0))))*(2^(sh).toNat))+(2*m0)) (2*(2*m0))<|jOO 8 rfl<|sSub (2^(sh).toNat) ((((2*(((((2*(i:Int))+1)*n0)-m0)-((((((2*(i:Int))+1)*n0)-m0).tdiv (2*m0))*(2*m0))))*(2^(sh).toNat))+(2*m0)).tdiv (2*(2*m0)))<|pu1<|sBK d0 #[I ((2^(sh).toNat)-((((2*(((((2*(i:Int))+1)*n0)-m0)-((((((2*(i:Int))+1)*n0)-m0).tdiv (2*m0))*(2*m0))))*(2^(sh).toNat))+(2*m0)).tdiv (2*(2*m0)))),I ((((2*(((((2*(i:Int))+1)*n0)-m0)-((((((2*(i:Int))+1)*n0)-m0).tdiv (2*m0))*(2*m0))))*(2^(sh).toNat))+(2*m0)).tdiv (2*(2*m0)))] 3 fun a0 _ w0=>pu1<|sBK w0 #[I (((((2*(i:Int))+1)*n0)-m0).tdiv (2*m0)), .slice (At a0 0) 2 2] 121 fun _ _ x0=>?_
  refine sApp (nb:=32) x0 r0 3 (RdT.blk (enc:=encTap) (sz:=2) (xs:=[(⟨(((((2*(i:Int))+1)*n0)-m0).tdiv (2*m0)),⟨(At a0 0),2,2,[((2^(sh).toNat)-((((2*(((((2*(i:Int))+1)*n0)-m0)-((((((2*(i:Int))+1)*n0)-m0).tdiv (2*m0))*(2*m0))))*(2^(sh).toNat))+(2*m0)).tdiv (2*(2*m0)))),((((2*(((((2*(i:Int))+1)*n0)-m0)-((((((2*(i:Int))+1)*n0)-m0).tdiv (2*m0))*(2*m0))))*(2^(sh).toNat))+(2*m0)).tdiv (2*(2*m0)))]⟩⟩:Tap)]) fR 1 0 rfl rfl rfl om) underlying50 (i:=Tryz.t121) kr fR fun y0 z0 f0 _ a1 b1=>jOO 6 rfl<|sAdd (i:Int) 1<|jOI 2 rfl ?_
  have c1:=(b1.dropAt 0 rfl)
  have d1:=(Sat.perm (cs':=([(a0, .cells #[I ((2^(sh).toNat)-((((2*(((((2*(i:Int))+1)*n0)-m0)-((((((2*(i:Int))+1)*n0)-m0).tdiv (2*m0))*(2*m0))))*(2^(sh).toNat))+(2*m0)).tdiv (2*(2*m0)))),I ((((2*(((((2*(i:Int))+1)*n0)-m0)-((((((2*(i:Int))+1)*n0)-m0).tdiv (2*m0))*(2*m0))))*(2^(sh).toNat))+(2*m0)).tdiv (2*(2*m0)))] 3 (0,0))]++s0)::(f0::H::F)) c1 (by simp))
  exact ⟨(i+1,(zs++[(⟨(((((2*(i:Int))+1)*n0)-m0).tdiv (2*m0)),⟨(At a0 0),2,2,[((2^(sh).toNat)-((((2*(((((2*(i:Int))+1)*n0)-m0)-((((((2*(i:Int))+1)*n0)-m0).tdiv (2*m0))*(2*m0))))*(2^(sh).toNat))+(2*m0)).tdiv (2*(2*m0)))),((((2*(((((2*(i:Int))+1)*n0)-m0)-((((((2*(i:Int))+1)*n0)-m0).tdiv (2*m0))*(2*m0))))*(2^(sh).toNat))+(2*m0)).tdiv (2*(2*m0)))]⟩⟩:Tap)]),y0,(A0+1),z0,f0,([(a0, .cells #[I ((2^(sh).toNat)-((((2*(((((2*(i:Int))+1)*n0)-m0)-((((((2*(i:Int))+1)*n0)-m0).tdiv (2*m0))*(2*m0))))*(2^(sh).toNat))+(2*m0)).tdiv (2*(2*m0)))),I ((((2*(((((2*(i:Int))+1)*n0)-m0)-((((((2*(i:Int))+1)*n0)-m0).tdiv (2*m0))*(2*m0))))*(2^(sh).toNat))+(2*m0)).tdiv (2*(2*m0)))] 3 (0,0))]++s0)),od,alB,d1,om,mem_snoc hB (show tapB (⟨(((((2*(i:Int))+1)*n0)-m0).tdiv (2*m0)),⟨(At a0 0),2,2,[((2^(sh).toNat)-((((2*(((((2*(i:Int))+1)*n0)-m0)-((((((2*(i:Int))+1)*n0)-m0).tdiv (2*m0))*(2*m0))))*(2^(sh).toNat))+(2*m0)).tdiv (2*(2*m0)))),((((2*(((((2*(i:Int))+1)*n0)-m0)-((((((2*(i:Int))+1)*n0)-m0).tdiv (2*m0))*(2*m0))))*(2^(sh).toNat))+(2*m0)).tdiv (2*(2*m0)))]⟩⟩:Tap) from ⟨by unfold numB;dsimp only;omega,by simp,by intro z hz;simp only [List.mem_cons,List.not_mem_nil,or_false] at hz;unfold numB;omega⟩),by simp;omega,a1,(by
    intro z hz
    rcases List.mem_append.1 hz with h|h
    ·exact (t0 z h).of_mem mS
    ·simp only [List.mem_singleton] at h;subst h;exact ⟨(RdT.blk (cs:=[[(a0, .cells #[I ((2^(sh).toNat)-((((2*(((((2*(i:Int))+1)*n0)-m0)-((((((2*(i:Int))+1)*n0)-m0).tdiv (2*m0))*(2*m0))))*(2^(sh).toNat))+(2*m0)).tdiv (2*(2*m0)))),I ((((2*(((((2*(i:Int))+1)*n0)-m0)-((((((2*(i:Int))+1)*n0)-m0).tdiv (2*m0))*(2*m0))))*(2^(sh).toNat))+(2*m0)).tdiv (2*(2*m0)))] 3 (0,0))]]) (enc:=Go.E.encI) (sz:=1) (xs:=[((2^(sh).toNat)-((((2*(((((2*(i:Int))+1)*n0)-m0)-((((((2*(i:Int))+1)*n0)-m0).tdiv (2*m0))*(2*m0))))*(2^(sh).toNat))+(2*m0)).tdiv (2*(2*m0)))),((((2*(((((2*(i:Int))+1)*n0)-m0)-((((((2*(i:Int))+1)*n0)-m0).tdiv (2*m0))*(2*m0))))*(2^(sh).toNat))+(2*m0)).tdiv (2*(2*m0)))]) fR 2 0 rfl rfl rfl om).of_mem mS⟩)⟩
 refine jCO 2 rfl<|sSub (((((2*(i:Int))+1)*n0)-m0).tdiv (2*m0)) 1<|jOO 6 rfl<|stepY (.int .u64 sh) rfl rfl (Y_conv (k:= .i64) (a:=sh) underlying3 underlying164 (wrapIn_u64 _ om) rfl kr)<|stepY (I (2^(sh).toNat)) rfl rfl (Y_shl1 (k':= .u64) sh rfl kr kr om)<|jOC 4 rfl ?_
 have G0:=pow2_pos sh.toNat;have H0:=pow2_le (a:=sh.toNat) (b:=14) om
 have F0:=mul_abs (a:=(2*(((((2*(i:Int))+1)*n0)-m0)-(((((((2*(i:Int))+1)*n0)-m0).tdiv (2*m0))-1)*(2*m0))))) (b:=(2^(sh).toNat)) (A:=2048) (B:=16384) om om
 have I0:=tdiv_abs (x:=(((2*(((((2*(i:Int))+1)*n0)-m0)-(((((((2*(i:Int))+1)*n0)-m0).tdiv (2*m0))-1)*(2*m0))))*(2^(sh).toNat))+(2*m0))) (d:=(2*(2*m0))) (A:=67108864) om
 refine jCO 4 rfl<|sMul ((((((2*(i:Int))+1)*n0)-m0).tdiv (2*m0))-1) (2*m0)<|sSub ((((2*(i:Int))+1)*n0)-m0) (((((((2*(i:Int))+1)*n0)-m0).tdiv (2*m0))-1)*(2*m0))<|sMul 2 (((((2*(i:Int))+1)*n0)-m0)-(((((((2*(i:Int))+1)*n0)-m0).tdiv (2*m0))-1)*(2*m0)))<|pu1<|sMul (2*(((((2*(i:Int))+1)*n0)-m0)-(((((((2*(i:Int))+1)*n0)-m0).tdiv (2*m0))-1)*(2*m0)))) (2^(sh).toNat)<|pu1<|sAdd ((2*(((((2*(i:Int))+1)*n0)-m0)-(((((((2*(i:Int))+1)*n0)-m0).tdiv (2*m0))-1)*(2*m0))))*(2^(sh).toNat)) (2*m0)<|pu1<|sMul 2 (2*m0)<|sQuo (((2*(((((2*(i:Int))+1)*n0)-m0)-(((((((2*(i:Int))+1)*n0)-m0).tdiv (2*m0))-1)*(2*m0))))*(2^(sh).toNat))+(2*m0)) (2*(2*m0))<|jOO 8 rfl<|sSub (2^(sh).toNat) ((((2*(((((2*(i:Int))+1)*n0)-m0)-(((((((2*(i:Int))+1)*n0)-m0).tdiv (2*m0))-1)*(2*m0))))*(2^(sh).toNat))+(2*m0)).tdiv (2*(2*m0)))<|pu1<|sBK d0 #[I ((2^(sh).toNat)-((((2*(((((2*(i:Int))+1)*n0)-m0)-(((((((2*(i:Int))+1)*n0)-m0).tdiv (2*m0))-1)*(2*m0))))*(2^(sh).toNat))+(2*m0)).tdiv (2*(2*m0)))),I ((((2*(((((2*(i:Int))+1)*n0)-m0)-(((((((2*(i:Int))+1)*n0)-m0).tdiv (2*m0))-1)*(2*m0))))*(2^(sh).toNat))+(2*m0)).tdiv (2*(2*m0)))] 3 fun b0 _ e1=>pu1<|sBK e1 #[I ((((((2*(i:Int))+1)*n0)-m0).tdiv (2*m0))-1), .slice (At b0 0) 2 2] 121 fun _ _ f1=>?_
 refine sApp (nb:=32) f1 r0 3 (RdT.blk (enc:=encTap) (sz:=2) (xs:=[(⟨((((((2*(i:Int))+1)*n0)-m0).tdiv (2*m0))-1),⟨(At b0 0),2,2,[((2^(sh).toNat)-((((2*(((((2*(i:Int))+1)*n0)-m0)-(((((((2*(i:Int))+1)*n0)-m0).tdiv (2*m0))-1)*(2*m0))))*(2^(sh).toNat))+(2*m0)).tdiv (2*(2*m0)))),((((2*(((((2*(i:Int))+1)*n0)-m0)-(((((((2*(i:Int))+1)*n0)-m0).tdiv (2*m0))-1)*(2*m0))))*(2^(sh).toNat))+(2*m0)).tdiv (2*(2*m0)))]⟩⟩:Tap)]) fR 1 0 rfl rfl rfl om) underlying50 (i:=Tryz.t121) kr fR fun g1 h1 g0 _ i1 j1=>jOO 6 rfl<|sAdd (i:Int) 1<|jOI 2 rfl ?_
 have k1:=(j1.dropAt 0 rfl)
 have l1:=(Sat.perm (cs':=([(b0, .cells #[I ((2^(sh).toNat)-((((2*(((((2*(i:Int))+1)*n0)-m0)-(((((((2*(i:Int))+1)*n0)-m0).tdiv (2*m0))-1)*(2*m0))))*(2^(sh).toNat))+(2*m0)).tdiv (2*(2*m0)))),I ((((2*(((((2*(i:Int))+1)*n0)-m0)-(((((((2*(i:Int))+1)*n0)-m0).tdiv (2*m0))-1)*(2*m0))))*(2^(sh).toNat))+(2*m0)).tdiv (2*(2*m0)))] 3 (0,0))]++s0)::(g0::H::F)) k1 (by simp))
 exact ⟨(i+1,(zs++[(⟨((((((2*(i:Int))+1)*n0)-m0).tdiv (2*m0))-1),⟨(At b0 0),2,2,[((2^(sh).toNat)-((((2*(((((2*(i:Int))+1)*n0)-m0)-(((((((2*(i:Int))+1)*n0)-m0).tdiv (2*m0))-1)*(2*m0))))*(2^(sh).toNat))+(2*m0)).tdiv (2*(2*m0)))),((((2*(((((2*(i:Int))+1)*n0)-m0)-(((((((2*(i:Int))+1)*n0)-m0).tdiv (2*m0))-1)*(2*m0))))*(2^(sh).toNat))+(2*m0)).tdiv (2*(2*m0)))]⟩⟩:Tap)]),g1,(A0+1),h1,g0,([(b0, .cells #[I ((2^(sh).toNat)-((((2*(((((2*(i:Int))+1)*n0)-m0)-(((((((2*(i:Int))+1)*n0)-m0).tdiv (2*m0))-1)*(2*m0))))*(2^(sh).toNat))+(2*m0)).tdiv (2*(2*m0)))),I ((((2*(((((2*(i:Int))+1)*n0)-m0)-(((((((2*(i:Int))+1)*n0)-m0).tdiv (2*m0))-1)*(2*m0))))*(2^(sh).toNat))+(2*m0)).tdiv (2*(2*m0)))] 3 (0,0))]++s0)),od,alB,l1,om,mem_snoc hB (show tapB (⟨((((((2*(i:Int))+1)*n0)-m0).tdiv (2*m0))-1),⟨(At b0 0),2,2,[((2^(sh).toNat)-((((2*(((((2*(i:Int))+1)*n0)-m0)-(((((((2*(i:Int))+1)*n0)-m0).tdiv (2*m0))-1)*(2*m0))))*(2^(sh).toNat))+(2*m0)).tdiv (2*(2*m0)))),((((2*(((((2*(i:Int))+1)*n0)-m0)-(((((((2*(i:Int))+1)*n0)-m0).tdiv (2*m0))-1)*(2*m0))))*(2^(sh).toNat))+(2*m0)).tdiv (2*(2*m0)))]⟩⟩:Tap) from ⟨by unfold numB;dsimp only;omega,by simp,by intro z hz;simp only [List.mem_cons,List.not_mem_nil,or_false] at hz;unfold numB;omega⟩),by simp;omega,i1,(by
   intro z hz
   rcases List.mem_append.1 hz with h|h
   ·exact (t0 z h).of_mem mS
   ·simp only [List.mem_singleton] at h;subst h;exact ⟨(RdT.blk (cs:=[[(b0, .cells #[I ((2^(sh).toNat)-((((2*(((((2*(i:Int))+1)*n0)-m0)-(((((((2*(i:Int))+1)*n0)-m0).tdiv (2*m0))-1)*(2*m0))))*(2^(sh).toNat))+(2*m0)).tdiv (2*(2*m0)))),I ((((2*(((((2*(i:Int))+1)*n0)-m0)-(((((((2*(i:Int))+1)*n0)-m0).tdiv (2*m0))-1)*(2*m0))))*(2^(sh).toNat))+(2*m0)).tdiv (2*(2*m0)))] 3 (0,0))]]) (enc:=Go.E.encI) (sz:=1) (xs:=[((2^(sh).toNat)-((((2*(((((2*(i:Int))+1)*n0)-m0)-(((((((2*(i:Int))+1)*n0)-m0).tdiv (2*m0))-1)*(2*m0))))*(2^(sh).toNat))+(2*m0)).tdiv (2*(2*m0)))),((((2*(((((2*(i:Int))+1)*n0)-m0)-(((((((2*(i:Int))+1)*n0)-m0).tdiv (2*m0))-1)*(2*m0))))*(2^(sh).toNat))+(2*m0)).tdiv (2*(2*m0)))]) fR 2 0 rfl rfl rfl om).of_mem mS⟩)⟩
theorem r8_box (W w:World) (H:Chunk) (F:List Chunk) (n0 m0 sh:Int) (hS:Sat W w (H::F)):
  Calls prog 99 #[I n0,I m0,I sh] w fun e w'=>∃(az:Option Addr) (nz kz:Nat) (zs:List Tap) (cd:Int) (c G:Chunk),e= .returned (.tuple #[.slice az nz kz,I cd])/\OwnT encTap 121 2 az nz kz zs c/\(∀z∈zs,Tap.Ok [G] z)/\((zs.length:Int)<=max m0 0/\∀z∈zs,tapB z)/\Sat W w' (G::c::H::F):=by
 refine callsK 83 func99 rfl<|jCO 10 rfl<|cS (r8_side n0 hS.flat) fun _ g0=>pu2<|SDn 18 ((1:Int)<=n0/\n0<=(128:Int)) (fun q0=>jOR 15 rfl<|retT [nS,I 8]<|(by have r0:Sat W _ ([]::[]::H::F):=Sat.nilc (Sat.nilc g0);exact ⟨none,0,0,[],_,[],[],rfl,OwnT.nil fR,(fun z hz=>by cases hz),⟨by simp;omega,(fun z hz=>by cases hz)⟩,r0⟩)) fun q0=>pu1<|gY<|cS (r8_side m0 g0.flat) fun _ d0=>jOC 4 rfl<|CDn ((1:Int)<=m0/\m0<=(128:Int)) (fun s0=>jCR 8 rfl<|retT [nS,I 8]<|(by have t0:Sat W _ ([]::[]::H::F):=Sat.nilc (Sat.nilc d0);exact ⟨none,0,0,[],_,[],[],rfl,OwnT.nil fR,(fun z hz=>by cases hz),⟨by simp;omega,(fun z hz=>by cases hz)⟩,t0⟩)) fun s0=>jCO 8 rfl<|sD 25 (sh<0) (fun u0=>jOR 14 rfl<|retT [nS,I 2]<|(by have v0:Sat W _ ([]::[]::H::F):=Sat.nilc (Sat.nilc d0);exact ⟨none,0,0,[],_,[],[],rfl,OwnT.nil fR,(fun z hz=>by cases hz),⟨by simp;omega,(fun z hz=>by cases hz)⟩,v0⟩)) fun u0=>jOC 5 rfl<|cD (sh>14) (fun w0=>jCR 8 rfl<|retT [nS,I 2]<|(by have x0:Sat W _ ([]::[]::H::F):=Sat.nilc (Sat.nilc d0);exact ⟨none,0,0,[],_,[],[],rfl,OwnT.nil fR,(fun z hz=>by cases hz),⟨by simp;omega,(fun z hz=>by cases hz)⟩,x0⟩)) fun w0=>jCC 14 rfl ?_
 refine loopF [0,1,2] (γ:=Nat×(List Tap)×(Option Addr)×Nat×Nat×Chunk×Chunk) (fun ⟨i,zs,F0,D0,H0,J0,B0⟩ R=>⟨[(9,I (i:Int)),(8, .slice F0 D0 H0)],B0::J0::R,m0.toNat-i,i<=m0.toNat/\(∀z∈zs,tapB z)/\(zs.length=i)/\OwnT encTap 121 2 F0 D0 H0 zs J0/\(∀z∈zs,Tap.Ok [B0] z)⟩) (0,[],none,0,0,[],[]) ⟨(Sat.nilc (Sat.nilc d0)),om,(by intro z hz;cases hz),by rfl,(OwnT.nil (enc:=encTap) (E:=121) (sz:=2) fR),(by intro z hz;cases hz)⟩ ?_
 rintro ⟨i,zs,F0,D0,H0,J0,B0⟩ ρ _ ⟨h0,hi,hB,X0,z0,C0⟩
 have L0:=z0.ll
 refine jCC 8 rfl<|CD ((i:Int)<m0) (fun b1=>jCR 13 rfl<|retT [.slice F0 D0 H0,I 0]<|⟨_,_,_,zs,_,_,_,rfl,z0,C0,⟨om,hB⟩,h0⟩) fun b1=>jCC 5 rfl ?_
 have O0:=mul_bd (a:=(i:Int)) (b:=n0) (A:=128) (B:=128) om om;have P0:((i:Int)+1)*n0=(i:Int)*n0+n0:=by rw [Int.add_mul,Int.one_mul]
 refine jCO 3 rfl<|sMul (i:Int) n0<|pu1<|sAdd (i:Int) 1<|pu1<|sMul ((i:Int)+1) n0<|jOO 8 rfl<|sQuo ((i:Int)*n0) m0<|pu1<|sAlloc h0 zeroValue121 fun _ _ c1=>sTk c1 0 rfl [I (((i:Int)*n0).tdiv m0),nS] fun _ i0=>jOC 3 rfl ?_
 have hq:=Int.mul_tdiv_add_tmod ((i:Int)*n0) m0;have T0:=Int.tmod_lt_of_pos ((i:Int)*n0) (by omega:0<m0);have U0:=Int.tmod_nonneg m0 (by omega:0<=((i:Int)*n0));have V0:=Int.mul_comm (((i:Int)*n0).tdiv m0) m0;have W0:=tdiv_bd (a:=((i:Int)*n0)) (b:=m0) (A:=16384) om om
 refine gCC i0 13 [0] rfl<|loopF [0,1,2,9,8,10,11,12] (γ:=Nat×Int×(List Int)×SO) (fun ⟨u,kk,ps,E0,A0,G0,I0⟩ R=>⟨[(14,I kk),(13, .slice E0 A0 G0)],I0::R,20000-u,u<=20000/\(∀z∈ps,1<=z/\z<=16384)/\((u:Int)+(((i:Int)*n0).tdiv m0)=kk/\((i:Int)*n0)<kk*m0+m0/\kk*m0<=((i:Int)*n0)+n0+m0/\(u=0->kk*m0<=((i:Int)*n0)))/\(ps.length=u)/\OwnT Go.E.encI 3 1 E0 A0 G0 ps I0⟩) (0,(((i:Int)*n0).tdiv m0),[],none,0,0,[]) ⟨(Sat.nilc i0),om,(by intro z hz;cases hz),om,by rfl,(OwnT.nil (enc:=Go.E.encI) (E:=3) (sz:=1) fR)⟩ ?_
 rintro ⟨u,kk,ps,E0,A0,G0,I0⟩ ρ _ ⟨e0,hu,hP,hk,S0,y0⟩
 have K0:=y0.ll
 refine jCC 2 rfl ?_
 have N0:=le_mul_pos (k:=kk) (m:=m0) om om;have M0:(kk+1)*m0=kk*m0+m0:=by rw [Int.add_mul,Int.one_mul]
 refine jCO 3 rfl<|sMul kk m0<|jOC 4 rfl<|cD ((kk*m0)<(((i:Int)+1)*n0)) (fun f1=>jCO 8 rfl<|sAdd kk 1<|pu1<|sMul (kk+1) m0<|stepY (I (min (((i:Int)+1)*n0) ((kk+1)*m0))) rfl rfl (Y_min2 (((i:Int)+1)*n0) ((kk+1)*m0) rfl rfl kr kr)<|pu3<|sMul kk m0<|stepY (I (max ((i:Int)*n0) (kk*m0))) rfl rfl (Y_max2 ((i:Int)*n0) (kk*m0) rfl rfl kr kr)<|sSub (min (((i:Int)+1)*n0) ((kk+1)*m0)) (max ((i:Int)*n0) (kk*m0))<|sBK e0 #[I ((min (((i:Int)+1)*n0) ((kk+1)*m0))-(max ((i:Int)*n0) (kk*m0)))] 3 fun _ _ g1=>sApp (nb:=8) g1 y0 1 (RdT.blk (enc:=Go.E.encI) (sz:=1) (xs:=[((min (((i:Int)+1)*n0) ((kk+1)*m0))-(max ((i:Int)*n0) (kk*m0)))]) fR 1 0 rfl rfl rfl om) underlying22 (i:=Tryz.t3) kr fR fun h1 i1 j1 _ k1 l1=>jOO 6 rfl<|sAdd kk 1<|jOI 2 rfl<|⟨(u+1,(kk+1),(ps++[((min (((i:Int)+1)*n0) ((kk+1)*m0))-(max ((i:Int)*n0) (kk*m0)))]),h1,(A0+1),i1,j1),od,alB,(l1.dropAt 0 rfl),om,mem_snoc hP om,om,by simp;omega,k1⟩) fun f1=>jCC 13 rfl<|cD ((A0:Int)>8) (fun n1=>jCR 13 rfl<|retT [nS,I 9]<|(by have o1:=(e0.drops [0,0,0,0]);have q1:Sat W _ ([]::[]::H::F):=Sat.nilc (Sat.nilc o1);exact ⟨none,0,0,[],_,[],[],rfl,OwnT.nil fR,(fun z hz=>by cases hz),⟨by simp;omega,(fun z hz=>by cases hz)⟩,q1⟩)) fun n1=>jCC 3 rfl ?_
 have Q0:=pow2_pos sh.toNat;have R0:=pow2_le (a:=sh.toNat) (b:=14) om
 refine jCO 2 rfl<|stepY (.int .u64 sh) rfl rfl (Y_conv (k:= .i64) (a:=sh) underlying3 underlying164 (wrapIn_u64 _ om) rfl kr)<|stepY (I (2^(sh).toNat)) rfl rfl (Y_shl1 (k':= .u64) sh rfl kr kr om)<|pu1<|sF #[I (2^(sh).toNat), .slice E0 A0 G0] call142 (Calls.mono (r8_divide W _ _ [] (2^(sh).toNat) _ _ _ ps (RdT.flat (y0.rdAt 0 (by rfl))) om (fun z hz=>by have:=hP z hz;omega) om e0.flat) ?_)
 rintro _ _ ⟨a0,b0,c0,j0,f0,rfl,r1,k0,l0⟩
 refine ⟨_,rfl,?_⟩
 have s1:=l0.unflat1;clear l0
 refine pu1<|sT s1 2 1 (.slice a0 b0 c0) [.slice a0 b0 c0] #[I (((i:Int)*n0).tdiv m0), .slice a0 b0 c0] sizeOf22 fun _ o0=>gOO o0 5 [202] rfl<|sBK o0 #[I (((i:Int)*n0).tdiv m0), .slice a0 b0 c0] 121 fun _ _ t1=>sApp (nb:=32) t1 z0 5 (RdT.blk (enc:=encTap) (sz:=2) (xs:=[(⟨(((i:Int)*n0).tdiv m0),⟨a0,b0,c0,f0⟩⟩:Tap)]) fR 1 0 rfl rfl rfl om) underlying50 (i:=Tryz.t121) kr fR fun u1 v1 p0 _ w1 x1=>jOO 6 rfl<|sAdd (i:Int) 1<|jOI 2 rfl ?_
 have y1:=(x1.drops [0,1,1])
 exact ⟨(i+1,(zs++[(⟨(((i:Int)*n0).tdiv m0),⟨a0,b0,c0,f0⟩⟩:Tap)]),u1,(D0+1),v1,p0,(j0++B0)),od,alB,(Sat.perm (cs':=(j0++B0)::(p0::H::F)) y1 (by simp)),om,mem_snoc hB (show tapB (⟨(((i:Int)*n0).tdiv m0),⟨a0,b0,c0,f0⟩⟩:Tap) from ⟨by unfold numB;dsimp only;omega,by have:=k0.1;dsimp only;omega,k0.2⟩),by simp;omega,w1,(by
   intro z hz
   rcases List.mem_append.1 hz with h|h
   ·exact (C0 z h).of_mem mS
   ·simp only [List.mem_singleton] at h;subst h;exact ⟨r1.of_mem mS⟩)⟩
end Go.Proofs.YtghcddbhllkbmaaGreat
namespace Go.E
set_option linter.unusedVariables false
set_option linter.unusedSimpArgs false
section
variable {P:Program} {W w:World} {cs:List Chunk} {ρ:Env} {o:Oper} {ops:Array Oper} {rest:List Oper} {n:Nat} {N:Env->World->Prop}
end
end Go.E
