import Derived.WalkKit
import Derived.Deep.Quiet
import Derived.KernelRfl
import Derived.Laws.BytesString
import Derived.Laws.Shifts
import Derived.Laws.IdiomStrings
import Derived.OpenShut
import Derived.Test.YtdingplbadblpaaGreatProg
import Derived.Shelf.SortG.Plain
import Derived.Shelf.SortG.SortNone
import Derived.Shelf.SlicesG.CompactI
import Derived.Test.YtdingplbadblpaaGreatR4Q3Le
namespace Go.Proofs.YtdingplbadblpaaGreat
open Go Go.E Go.Proofs.Tryz
set_option linter.all false
set_option maxRecDepth 100000
set_option maxHeartbeats 2000000
variable {W w:World} {H:Chunk} {F:List Chunk}
theorem take_split {l:List Int} {i:Nat} {x:Int} (h:l[i]?=some x):l=l.take i++x::l.drop (i+1):=by
  obtain ⟨hl,e⟩:=List.getElem?_eq_some_iff.1 h
  conv=>lhs;rw [<-List.take_append_drop i l,List.drop_eq_getElem_cons hl,e]
theorem layw_step {L:Lay} (g:LayG L) {i:Nat} {nd tot c:Int} {fl cl:List Int} (h:L.od[i]?=some nd) (hF:∀n∈L.od.take i,fl[n.toNat]?=some (L.first n)/\cl[n.toNat]?=some (L.cnt n)) (ht:tot=((L.od.take i).map L.cnt).sum) (hc:c=L.cnt nd)
  (h1:nd.toNat<fl.length) (h2:nd.toNat<cl.length):∀n∈L.od.take (i+1),(fl.set nd.toNat tot)[n.toNat]?=some (L.first n)/\(cl.set nd.toNat c)[n.toNat]?=some (L.cnt n):=by
 intro n hn
 have hfa:=g.first_at (take_split h)
 rw [List.take_add_one,h,Option.toList_some] at hn
 rcases List.mem_append.1 hn with hn|hn
 ·have hne:n≠nd:=fun e=>hfa.2 (e▸hn)
  have r1:=g.rng n (List.mem_of_mem_take hn);have r2:=g.rng nd (List.mem_of_getElem? h);have r3:=g.ni
  rw [List.getElem?_set,if_neg om,List.getElem?_set,if_neg om]
  exact hF n hn
 ·simp only [List.mem_singleton] at hn
  subst hn
  rw [List.getElem?_set,if_pos rfl,if_pos h1,List.getElem?_set,if_pos rfl,if_pos h2,hfa.1,ht,hc]
  exact ⟨rfl,rfl⟩
theorem sum_take {f:Int->Int} {l:List Int} {i:Nat} {x:Int} (h:l[i]?=some x):((l.take (i+1)).map f).sum=((l.take i).map f).sum+f x:=by
  rw [List.take_add_one,h,Option.toList_some,List.map_append,List.sum_append];simp
theorem tasks_len {L:Lay} (g:LayG L) {x:Int} (hx:x∈L.od):((L.tasks x).length:Int)=L.cnt x:=by
  have h:=(g.grid hx).2.2
  unfold Lay.tasks Lay.cnt
  rw [List.length_append,List.length_map,upto_len]
  split<;>simp<;>omega
theorem tasks_sum {L:Lay} (g:LayG L):∀l:List Int,(∀x∈l,x∈L.od)->((l.flatMap L.tasks).length:Int)=(l.map L.cnt).sum
  |[],_=>rfl
  |x::l,h=>by
    rw [List.flatMap_cons,List.length_append,List.map_cons,List.sum_cons,<-tasks_sum g l (fun y hy=>h y (by simp [hy])),<-tasks_len g (h x (by simp))]
    push_cast;rfl
theorem take_sum_le {L:Lay} (g:LayG L) (i:Nat):0<=((L.od.take i).map L.cnt).sum/\((L.od.take i).map L.cnt).sum<=L.total:=by
  have h1:=sum_nn (f:=L.cnt) (L.od.take i) (fun y hy=>by have:=g.cntb (List.mem_of_mem_take hy);omega)
  have h2:=sum_nn (f:=L.cnt) (L.od.drop i) (fun y hy=>by have:=g.cntb (List.mem_of_mem_drop hy);omega)
  have h3:L.total=((L.od.take i).map L.cnt).sum+((L.od.drop i).map L.cnt).sum:=by
    unfold Lay.total
    rw [<-List.sum_append,<-List.map_append,List.take_append_drop]
  omega
theorem sh_bd {L:Lay} (g:LayG L) {i:Nat} {m:Shape} (h:L.sh[i]?=some m):szP m:=by
  have hl:=(List.getElem?_eq_some_iff.1 h).1
  have:=g.sz (i:Int) (by omega) (by have:=g.len;omega)
  unfold shpAt at this
  rw [show ((i:Int)).toNat=i by omega,h] at this
  exact this
theorem cellsum_le {L:Lay} (g:LayG L):∀i:Nat,i<=L.sh.length->0<=((L.sh.take i).map fun m=>m.w*m.h).sum/\((L.sh.take i).map fun m=>m.w*m.h).sum<=4096*i
  |0,_=>by simp
  |i+1,hi=>by
    have ih:=cellsum_le g i (by omega)
    have hx:L.sh[i]?=some L.sh[i]:=List.getElem?_eq_getElem (by omega)
    have hz:=sh_bd g hx
    unfold szP at hz
    have hm:0<=L.sh[i].w*L.sh[i].h:=Int.mul_nonneg (by omega) (by omega)
    rw [List.take_add_one,hx,Option.toList_some,List.map_append,List.sum_append]
    simp only [List.map_cons,List.map_nil,List.sum_cons,List.sum_nil]
    push_cast
    omega
def histC (L:Lay) (n:Int):Int:=if (L.st n).kind=4 then (L.st n).bins*(L.cnt n-1) else 0
theorem hist_bd {L:Lay} (g:LayG L) {n:Int} (hn:n∈L.od):0<=histC L n/\histC L n<=2097152:=by
  unfold histC
  split
  · rename_i hk
    have hb:=g.byt hn
    unfold bytOK at hb
    have hc:=g.cntb hn
    have:=mul_bd (a:=(L.st n).bins) (b:=L.cnt n-1) (A:=128) (B:=16384) (by omega) (by omega)
    omega
  · omega
theorem histsum_le {L:Lay} (g:LayG L):∀i:Nat,i<=L.od.length->0<=((L.od.take i).map (histC L)).sum/\((L.od.take i).map (histC L)).sum<=2097152*i
  |0,_=>by simp
  |i+1,hi=>by
    have ih:=histsum_le g i (by omega)
    have hx:L.od[i]?=some L.od[i]:=List.getElem?_eq_getElem (by omega)
    have hz:=hist_bd g (List.mem_of_getElem? hx)
    rw [sum_take hx]
    push_cast
    omega
theorem p20_plan (p:Job) (tw:Int) (th:Int) (hp:Job.Ok [H] p) (hb:p.inputs.n<=1000000/\p.stages.n<=1000000/\p.outputs.n<=1000000) (hS:Sat W w (H::F)):
  Calls prog 46 #[.agg (encJob p).toArray,I tw,I th] w fun e w'=>(¬lowC p.v tw th=0/\e= .returned (.tuple #[.pointer none,I (lowC p.v tw th)])/\Sat W w' (H::F))\/(lowC p.v tw th=0/\∃(b:Nat) (x:LayM) (G:Chunk),e= .returned (.tuple #[Pt b 0,I 0])/\LayM.Ok [G++H] x/\x.L=layV p.v tw th/\LayG x.L/\x.jobStages.n=x.jobStages.l.length/\LayW x/\x.L.total<=4096/\Sat W w' ([(b, .cells (encLayM x).toArray 97 (0,0))]::(G++H)::F)):=by
 have hl_p_inputs:=hp.inputs.le;have hn_p_inputs:=hp.inputs.len
 have hl_p_stages:=hp.stages.le;have hn_p_stages:=hp.stages.len
 have hl_p_outputs:=hp.outputs.le;have hn_p_outputs:=hp.outputs.len
 have hpi:p.v.inputs.length=p.inputs.n:=by simp [Job.v,hn_p_inputs]
 have hps:p.v.stages.length=p.stages.n:=by simp [Job.v,hn_p_stages]
 refine callsA 120 func46 rfl<|sR<|sBox hS (.agg (encJob p).toArray) (encJob p).toArray fun a1 _ z0=>pu2<|zS<|lA z0 0 0 4 (isAgg28 _) (sizeOf28 _)<|cX call82 (p17_shapes p ⟨(RdT.flat (hp.inputs.up 1 (by rfl))),(fun z hz=>(hp.inputsD z hz).of_mem (mem_flat1 1 (by rfl))),(RdT.flat (hp.stages.up 1 (by rfl))),(fun z hz=>(hp.stagesD z hz).of_mem (mem_flat1 1 (by rfl))),(RdT.flat (hp.outputs.up 1 (by rfl)))⟩ (od) z0.flat) ?_
 rintro _ _ ⟨i0,a0,j0,q0,rfl,r0,b1⟩
 have v0:=b1.unflat1
 have hn_az_7:=r0.len;have hl_az_7:=r0.le
 refine pu7<|zQ<|pu2<|nT<|cN ((shpV p.v).2.2) 0 (fun l0=>?_) (fun l0=>?_)
 rotate_left
 ·refine sR<|pu3<|zR<|retT [.pointer none,I ((shpV p.v).2.2)] ?_
  have c1:=(v0.drops [0,0])
  have hk:lowC p.v tw th=(shpV p.v).2.2:=by unfold lowC;rw [if_neg l0]
  exact .inl ⟨by rw [hk];omega,by rw [hk];rfl,c1⟩
 refine kS<|lA v0 1 0 4 (isAgg28 _) (sizeOf28 _)<|cX call86 (p17_order p ⟨(RdT.flat (hp.inputs.up 2 (by rfl))),(fun z hz=>(hp.inputsD z hz).of_mem (mem_flat1 2 (by rfl))),(RdT.flat (hp.stages.up 2 (by rfl))),(fun z hz=>(hp.stagesD z hz).of_mem (mem_flat1 2 (by rfl))),(RdT.flat (hp.outputs.up 2 (by rfl)))⟩ (od) v0.flat) ?_
 rintro _ _ ⟨g0,f0,h0,s0,rfl,n0,d1⟩
 have o0:=d1.unflat1
 have hn_az_16:=n0.len;have hl_az_16:=n0.le
 refine pu5<|nilO ?_
 have hso:=shp_ok (j:=p.v) l0;have hod:=hso.od
 have hsl:(shpV p.v).1.length=p.inputs.n+p.stages.n:=by have h:=hso.len;omega
 have hol:(ordV p.v).1.length=p.stages.n:=by have h:=hso.ln;omega
 have hnn:=hso.nn
 refine tN<|seqE<|sR<|pu2<|nT<|cN ((ordV p.v).2) 0 (fun e1=>?_) (fun e1=>?_)
 rotate_left
 ·exact sR<|pu3<|zR<|retT [.pointer none,I ((ordV p.v).2)]<|absurd hod om
 refine kT<|seqE<|sR<|pu3<|sD 39 (tw<1) (fun f1=>?_) (fun f1=>?_)
 ·refine pu11<|zC<|pu2<|zR<|retT [.pointer none,I 2] ?_
  have g1:=(o0.drops [0,0,0])
  have hk:lowC p.v tw th=2:=by unfold lowC;rw [if_pos l0,if_neg (by unfold tileP;omega)]
  exact .inl ⟨by rw [hk];omega,by rw [hk];rfl,g1⟩
 refine pu4<|sD 43 (tw>64) (fun h1=>?_) (fun h1=>?_)
 ·refine pu7<|zC<|pu2<|zR<|retT [.pointer none,I 2] ?_
  have i1:=(o0.drops [0,0,0])
  have hk:lowC p.v tw th=2:=by unfold lowC;rw [if_pos l0,if_neg (by unfold tileP;omega)]
  exact .inl ⟨by rw [hk];omega,by rw [hk];rfl,i1⟩
 refine pu4<|sD 47 (th<1) (fun j1=>?_) (fun j1=>?_)
 ·refine pu3<|zC<|pu2<|zR<|retT [.pointer none,I 2] ?_
  have k1:=(o0.drops [0,0,0])
  have hk:lowC p.v tw th=2:=by unfold lowC;rw [if_pos l0,if_neg (by unfold tileP;omega)]
  exact .inl ⟨by rw [hk];omega,by rw [hk];rfl,k1⟩
 refine pu3<|nT<|cD (th>64) (fun l1=>?_) (fun l1=>?_)
 ·refine sR<|pu2<|zR<|retT [.pointer none,I 2] ?_
  have m1:=(o0.drops [0,0,0])
  have hk:lowC p.v tw th=2:=by unfold lowC;rw [if_pos l0,if_neg (by unfold tileP;omega)]
  exact .inl ⟨by rw [hk];omega,by rw [hk];rfl,m1⟩
 refine kT<|seqE ?_
 have htp:tileP tw th:=by unfold tileP;omega
 obtain ⟨L,hL⟩:∃z:Lay,z=(⟨(p.inputs.n:Int),p.stages.l.map Stage.v,(shpV p.v).1,(ordV p.v).1,tw,th⟩:Lay):=⟨_,rfl⟩
 have hlv:L=layV p.v tw th:=by rw [hL];unfold layV;rw [hpi];rfl
 have hg:LayG L:=by rw [hlv];exact lay_ok hso htp
 have hLd:L.od=(ordV p.v).1:=by rw [hL]
 have hLs:L.sh=(shpV p.v).1:=by rw [hL]
 have hg2:LayG (⟨(p.inputs.n:Int),p.stages.l.map Stage.v,(shpV p.v).1,(ordV p.v).1,tw,th⟩:Lay):=by rw [<-hL];exact hg
 have hLt:L.tw=tw/\L.th=th:=by rw [hL];exact ⟨rfl,rfl⟩
 have hgn:=hg.ni;have hgl:(L.ss.length:Int)=p.stages.n:=by rw [hL];simp [hn_p_stages]
 have hgi:L.ni=(p.inputs.n:Int):=by rw [hL]
 refine rE<|lA o0 2 0 4 (isAgg28 _) (sizeOf28 _)<|pu5<|sBox o0 (.agg #[.slice p.inputs.a p.inputs.n p.inputs.k, .slice p.stages.a p.stages.n p.stages.k, .slice p.outputs.a p.outputs.n p.outputs.k,I p.priority,I tw,I th, .slice g0 f0 h0, .slice i0 a0 j0,nS,nS]) #[.slice p.inputs.a p.inputs.n p.inputs.k, .slice p.stages.a p.stages.n p.stages.k, .slice p.outputs.a p.outputs.n p.outputs.k,I p.priority,I tw,I th, .slice g0 f0 h0, .slice i0 a0 j0,nS,nS] fun k0 _ n1=>pu1<|zS<|pu3<|sMake (kl:= .i64) (kc:= .i64) (enc:=Go.E.encI) (sz:=1) (nb:=8) n1 0 a0 (a0:Int) (rfl:(a0:Int)=(a0:Int)) underlying22 (i:=Tryz.t3) kr fR fun d0 o1 _ q1 r1=>pu2 ?_
 refine tW r1 1 8 (.slice (At d0 0) a0 a0) sizeOf22 fun _ s1=>zS<|pu3<|sMake (kl:= .i64) (kc:= .i64) (enc:=Go.E.encI) (sz:=1) (nb:=8) s1 0 a0 (a0:Int) (rfl:(a0:Int)=(a0:Int)) underlying22 (i:=Tryz.t3) kr fR fun e0 t1 _ u1 v1=>pu2<|tW v1 2 9 (.slice (At e0 0) a0 a0) sizeOf22 fun _ w1=>zS<|pu1<|zQ<|pu3<|nT<|blockE ?_
 have x1:=(w1.picks [0,1])
 refine loopA (γ:=Nat×Int×(List Int)×Chunk×(List Int)×Chunk) (fun ⟨i,tot,fl,cf,cl,cc⟩=>[(1,I tw),(2,I th),(12,Pt k0 0),(70, .slice g0 f0 h0),(71,I (f0:Int)),(13,I tot),(72,I (i:Int))]) (fun ⟨i,tot,fl,cf,cl,cc⟩ w=>Sat W w (cf::cc::[(k0, .cells #[.slice p.inputs.a p.inputs.n p.inputs.k, .slice p.stages.a p.stages.n p.stages.k, .slice p.outputs.a p.outputs.n p.outputs.k,I p.priority,I tw,I th, .slice g0 f0 h0, .slice i0 a0 j0, .slice (At d0 0) a0 a0, .slice (At e0 0) a0 a0] 97 (0,0))]::s0::q0::[(a1, .cells (encJob p).toArray 28 (0,0))]::H::F)/\i<=p.stages.n/\OwnT Go.E.encI 3 1 (At d0 0) a0 a0 fl cf/\OwnT Go.E.encI 3 1 (At e0 0) a0 a0 cl cc/\(∀n∈L.od.take i,fl[n.toNat]?=some (L.first n)/\cl[n.toNat]?=some (L.cnt n))/\tot=((L.od.take i).map L.cnt).sum) (fun ⟨i,tot,fl,cf,cl,cc⟩=>(p.stages.n-i)) (0,0,(List.replicate a0 0),o1,(List.replicate a0 0),t1) ⟨x1,om,q1,u1,(by intro n hn;simp at hn),(by simp)⟩ ?_
 rintro ⟨i,tot,fl,cf,cl,cc⟩ ρ _ ⟨t0,hi,hOf,hOc,hF,hT⟩
 have hlf:=hOf.len;have hlc:=hOc.len;have hlfe:=hOf.le;have hlce:=hOc.le;have hts:=take_sum_le hg i;have htb:=hg.totb
 refine sR<|pu1<|nT<|seqE<|cD ((i:Int)<(f0:Int)) (fun y1=>?_) (fun y1=>?_)
 rotate_left
 ·refine exitE<|xB<|tN<|seqE<|sR<|pu2<|nT<|cD (tot>4096) (fun z1=>?_) (fun z1=>?_)
  ·refine sR<|pu2<|zR<|retT [.pointer none,I 13] ?_
   have a2:=(t0.drops [0,0,0,0,0,0])
   have hk:lowC p.v tw th=13:=by unfold lowC;rw [if_pos l0,if_pos htp,if_neg (by rw [<-hlv];unfold Lay.total;rw [<-List.take_of_length_le (l:=L.od) (i:=i) (by rw [hLd];omega),<-hT];omega)]
   exact .inl ⟨by rw [hk];omega,by rw [hk];rfl,a2⟩
  refine kS<|pu3<|zE<|retT [Pt k0 0,I 0] ?_
  have htt:L.total<=4096:=by unfold Lay.total;rw [<-List.take_of_length_le (l:=L.od) (i:=i) (by rw [hLd];omega),<-hT];omega
  have hk:lowC p.v tw th=0:=by unfold lowC;rw [if_pos l0,if_pos htp,if_pos (by rw [<-hlv];exact htt)]
  have b2:=((t0.picks [4,4,4]).dropAt 5 rfl)
  have c2:Sat W _ ([(k0, .cells #[.slice p.inputs.a p.inputs.n p.inputs.k, .slice p.stages.a p.stages.n p.stages.k, .slice p.outputs.a p.outputs.n p.outputs.k,I p.priority,I tw,I th, .slice g0 f0 h0, .slice i0 a0 j0, .slice (At d0 0) a0 a0, .slice (At e0 0) a0 a0] 97 (0,0))]::((s0++q0++cf++cc)++H)::F):=Sat.perm (show Sat W _ ([(k0, .cells #[.slice p.inputs.a p.inputs.n p.inputs.k, .slice p.stages.a p.stages.n p.stages.k, .slice p.outputs.a p.outputs.n p.outputs.k,I p.priority,I tw,I th, .slice g0 f0 h0, .slice i0 a0 j0, .slice (At d0 0) a0 a0, .slice (At e0 0) a0 a0] 97 (0,0))]::s0::q0::cf::cc::H::F) from b2) (by simp)
  have hok:LayM.Ok [(s0++q0++cf++cc)++H] (⟨p.inputs,p.stages,p.outputs,p.priority,tw,th,⟨g0,f0,h0,((ordV p.v).1)⟩,⟨i0,a0,j0,((shpV p.v).1)⟩,⟨(At d0 0),a0,a0,fl⟩,⟨(At e0 0),a0,a0,cl⟩⟩:LayM):=⟨(hp.inputs.of_mem mS),(fun z hz=>(hp.inputsD z hz).of_mem mS),(hp.stages.of_mem mS),(fun z hz=>(hp.stagesD z hz).of_mem mS),(hp.outputs.of_mem mS),(n0.rd (fun p hp=>by simp [hp])),(r0.rd (fun p hp=>by simp [hp])),(hOf.rd (fun p hp=>by simp [hp])),(hOc.rd (fun p hp=>by simp [hp]))⟩
  refine .inr ⟨hk,k0,(⟨p.inputs,p.stages,p.outputs,p.priority,tw,th,⟨g0,f0,h0,((ordV p.v).1)⟩,⟨i0,a0,j0,((shpV p.v).1)⟩,⟨(At d0 0),a0,a0,fl⟩,⟨(At e0 0),a0,a0,cl⟩⟩:LayM),(s0++q0++cf++cc),rfl,hok,?_,hg2,hn_p_stages.symm,?_,?_,c2⟩
  ·rw [<-hlv,hL];rfl
  ·exact fun n hn=>by have h:=hF n (by rw [List.take_of_length_le (by rw [hLd];omega),hLd];exact hn);rw [hL] at h;exact h
  ·rw [hL] at htt;exact htt
 refine kT<|seqE<|blockE<|sR<|sIdxO n0 (i:Int) i runUnderlying22 sizeOf3 fun c0 _ _ w0 d2 _=>?_
 have hnd:c0∈L.od:=by rw [hLd];exact List.mem_of_getElem? w0
 have hrn:=hg.rng c0 hnd;have hcb:=hg.cntb hnd;have hfi:=hg.fine hnd;have hgr:=hg.grid hnd;have hcs:=hg.cutsz hnd;unfold szP at hcs
 refine sLp t0 (d2.up 3 rfl) 0 (I c0) (isAgg3 _)<|pu1<|zS<|pu2 ?_
 have e2:=(t0.pick 2 rfl)
 refine cX call87 (p20_cut (x:=(⟨p.inputs,p.stages,p.outputs,p.priority,tw,th,⟨g0,f0,h0,((ordV p.v).1)⟩,⟨i0,a0,j0,((shpV p.v).1)⟩,⟨(At d0 0),a0,a0,fl⟩,⟨(At e0 0),a0,a0,cl⟩⟩:LayM)) ⟨(RdT.flat (hp.inputs.up 5 (by rfl))),(fun z hz=>(hp.inputsD z hz).of_mem (mem_flat1 5 (by rfl))),(RdT.flat (hp.stages.up 5 (by rfl))),(fun z hz=>(hp.stagesD z hz).of_mem (mem_flat1 5 (by rfl))),(RdT.flat (hp.outputs.up 5 (by rfl))),(RdT.flat (n0.rdAt 2 (by rfl))),(RdT.flat (r0.rdAt 3 (by rfl))),(RdT.flat (hOf.rdAt 0 (by rfl))),(RdT.flat (hOc.rdAt 1 (by rfl)))⟩ c0 hg2 hn_p_stages.symm (show c0∈(ordV p.v).1 from hLd▸hnd) e2.flat1) ?_
 rintro _ _ ⟨rfl,f2⟩
 have g2:=f2.unflat1
 obtain ⟨b0,hm_m_61⟩:∃z:Shape,z=L.cut c0:=⟨_,rfl⟩
 rw [show (LayM.L (⟨p.inputs,p.stages,p.outputs,p.priority,tw,th,⟨g0,f0,h0,((ordV p.v).1)⟩,⟨i0,a0,j0,((shpV p.v).1)⟩,⟨(At d0 0),a0,a0,fl⟩,⟨(At e0 0),a0,a0,cl⟩⟩:LayM)).cut c0=b0 from by rw [hm_m_61,hL];rfl]
 rw [<-hm_m_61] at hcs;rw [<-hm_m_61,hLt.1,hLt.2] at hfi
 refine sAlloc g2 zeroValue54 fun _ _ h2=>?_
 refine sT h2 0 0 (.agg #[I b0.w,I b0.h,I b0.max_]) [I b0.w,I b0.h,I b0.max_] #[I b0.w,I b0.h,I b0.max_] sizeOf54 fun _ x0=>zS<|pu1<|sL x0 0 0 (I b0.w) (isAgg3 _)<|pu1<|sL x0 0 1 (I b0.h) (isAgg3 _)<|pu2<|cR call88 (p5_count b0.w b0.h tw th x0.flat) fun _ i2=>pu5<|nilO ?_
 have hxn:L.nx c0=(colsN b0.w b0.h tw th)/\L.ny c0=(rowsN b0.w b0.h tw th):=by unfold Lay.nx Lay.ny;rw [<-hm_m_61,hLt.1,hLt.2];exact ⟨rfl,rfl⟩
 rw [hxn.1,hxn.2] at hgr
 refine tN<|sR<|pu2<|sMul (colsN b0.w b0.h tw th) (rowsN b0.w b0.h tw th)<|pu1<|zQ<|pu2 ?_
 have j2:=(i2.pick 1 rfl)
 refine cX call60 (p20_stage (x:=(⟨p.inputs,p.stages,p.outputs,p.priority,tw,th,⟨g0,f0,h0,((ordV p.v).1)⟩,⟨i0,a0,j0,((shpV p.v).1)⟩,⟨(At d0 0),a0,a0,fl⟩,⟨(At e0 0),a0,a0,cl⟩⟩:LayM)) ⟨(RdT.flat (hp.inputs.up 6 (by rfl))),(fun z hz=>(hp.inputsD z hz).of_mem (mem_flat1 6 (by rfl))),(RdT.flat (hp.stages.up 6 (by rfl))),(fun z hz=>(hp.stagesD z hz).of_mem (mem_flat1 6 (by rfl))),(RdT.flat (hp.outputs.up 6 (by rfl))),(RdT.flat (n0.rdAt 3 (by rfl))),(RdT.flat (r0.rdAt 4 (by rfl))),(RdT.flat (hOf.rdAt 1 (by rfl))),(RdT.flat (hOc.rdAt 2 (by rfl)))⟩ c0 (show (p.inputs.n:Int)<=c0/\c0<(p.inputs.n:Int)+(p.stages.n:Int) by omega) (show p.inputs.n<=1000/\p.stages.n<=1000 by omega) j2.flat1) ?_
 rintro _ _ ⟨m0,rfl,u0,k2⟩
 have p0:=k2.unflat1;replace u0:p.stages.l[(c0-(p.inputs.n:Int)).toNat]?=some m0:=u0
 have hok_q_74:=hp.stagesD m0 (List.mem_of_getElem? u0);have hst_q_74:(⟨(p.inputs.n:Int),p.stages.l.map Stage.v,(shpV p.v).1,(ordV p.v).1,tw,th⟩:Lay).st c0=m0.v:=stg_at (map_at (f:=Stage.v) u0)
 refine pu2<|nT<|cE m0.kind 4 (fun y0=>?_) (fun y0=>?_)
 rotate_left
 ·refine kT<|seqE ?_
  have hcn:((colsN b0.w b0.h tw th)*(rowsN b0.w b0.h tw th))=L.cnt c0:=by unfold Lay.cnt;rw [show L.st c0=m0.v from by rw [hL];exact hst_q_74,if_neg (show ¬m0.v.kind=4 from y0),hxn.1,hxn.2]
  obtain ⟨l2,m2,n2,o2,t4,q2,r2⟩:=OwnT.elem hOf c0
  obtain ⟨s2,t2,u2,v2,u4,w2,x2⟩:=OwnT.elem hOc c0
  refine drawE [13,15] [(3,⟨k0,8,none⟩, .slice (At d0 0) a0 a0),(8,⟨k0,9,none⟩, .slice (At e0 0) a0 a0)] [(true,[0,1,2,4,5,6,7,9,10,11]),(true,[3]),(true,[8]),(true,[12]),(false,[13]),(true,[14]),(false,[15])] rfl kr ⟨cI p0 0,cI p0 0,trivial⟩ ?_
  have y2:=p0.drew
  refine wU [0,1,2,4,5,6,7,9,10,11]<|wLd (.slice (At d0 0) a0 a0) 0 isAgg22<|wLd (.slice (At e0 0) a0 a0) 1 isAgg22<|wY (.pointer (some ⟨m2,n2+(c0).toNat*1,none⟩)) rfl (fun w _=>Y_idx (a:=(At d0 0)) (i:=c0) (len:=a0) (cap:=a0) rfl runUnderlying22 sizeOf3 kr kr q2)<|wO rfl<|sStF y2 hOf r2 2 (c0).toNat 0 l2 tot o2 (I tot) [I tot] sizeOf3 fun _ z2 a3 b3=>nilO ⟨dA,?_⟩
  refine wY (.pointer (some ⟨t2,u2+(c0).toNat*1,none⟩)) rfl (fun w _=>Y_idx (a:=(At e0 0)) (i:=c0) (len:=a0) (cap:=a0) rfl runUnderlying22 sizeOf3 kr kr w2)<|wO rfl<|sStF b3 hOc x2 3 (c0).toNat 0 s2 ((colsN b0.w b0.h tw th)*(rowsN b0.w b0.h tw th)) v2 (I ((colsN b0.w b0.h tw th)*(rowsN b0.w b0.h tw th))) [I ((colsN b0.w b0.h tw th)*(rowsN b0.w b0.h tw th))] sizeOf3 fun _ c3 d3 e3=>nilO ⟨dA,?_⟩
  refine wN<|tN<|rE<|pu2<|sAdd tot ((colsN b0.w b0.h tw th)*(rowsN b0.w b0.h tw th))<|pu1<|nB<|rE<|sAdd (i:Int) 1<|pu1<|nT ?_
  have f3:=((e3.picks [3,3]).dropAt 3 rfl)
  have hLi:L.od[i]?=some c0:=by rw [hLd];exact w0
  exact ⟨(i+1,(tot+((colsN b0.w b0.h tw th)*(rowsN b0.w b0.h tw th))),(fl.set ((c0).toNat) tot),z2,(cl.set ((c0).toNat) ((colsN b0.w b0.h tw th)*(rowsN b0.w b0.h tw th))),c3),od,alA,f3,om,a3,d3,(layw_step hg hLi hF hT hcn om om),(by rw [sum_take hLi,<-hT,<-hcn])⟩
 refine rE<|pu1<|sAdd ((colsN b0.w b0.h tw th)*(rowsN b0.w b0.h tw th)) 1<|pu1<|nT<|seqE ?_
 have hcn:(((colsN b0.w b0.h tw th)*(rowsN b0.w b0.h tw th))+1)=L.cnt c0:=by unfold Lay.cnt;rw [show L.st c0=m0.v from by rw [hL];exact hst_q_74,if_pos (show m0.v.kind=4 from y0),hxn.1,hxn.2]
 obtain ⟨g3,h3,i3,j3,x4,k3,l3⟩:=OwnT.elem hOf c0
 obtain ⟨m3,n3,o3,p3,y4,q3,r3⟩:=OwnT.elem hOc c0
 refine drawE [13,15] [(3,⟨k0,8,none⟩, .slice (At d0 0) a0 a0),(8,⟨k0,9,none⟩, .slice (At e0 0) a0 a0)] [(true,[0,1,2,4,5,6,7,9,10,11]),(true,[3]),(true,[8]),(true,[12]),(false,[13]),(true,[14]),(false,[15])] rfl kr ⟨cI p0 0,cI p0 0,trivial⟩ ?_
 have s3:=p0.drew
 refine wU [0,1,2,4,5,6,7,9,10,11]<|wLd (.slice (At d0 0) a0 a0) 0 isAgg22<|wLd (.slice (At e0 0) a0 a0) 1 isAgg22<|wY (.pointer (some ⟨h3,i3+(c0).toNat*1,none⟩)) rfl (fun w _=>Y_idx (a:=(At d0 0)) (i:=c0) (len:=a0) (cap:=a0) rfl runUnderlying22 sizeOf3 kr kr k3)<|wO rfl<|sStF s3 hOf l3 2 (c0).toNat 0 g3 tot j3 (I tot) [I tot] sizeOf3 fun _ u3 v3 w3=>nilO ⟨dA,?_⟩
 refine wY (.pointer (some ⟨n3,o3+(c0).toNat*1,none⟩)) rfl (fun w _=>Y_idx (a:=(At e0 0)) (i:=c0) (len:=a0) (cap:=a0) rfl runUnderlying22 sizeOf3 kr kr q3)<|wO rfl<|sStF w3 hOc r3 3 (c0).toNat 0 m3 (((colsN b0.w b0.h tw th)*(rowsN b0.w b0.h tw th))+1) p3 (I (((colsN b0.w b0.h tw th)*(rowsN b0.w b0.h tw th))+1)) [I (((colsN b0.w b0.h tw th)*(rowsN b0.w b0.h tw th))+1)] sizeOf3 fun _ x3 y3 z3=>nilO ⟨dA,?_⟩
 refine wN<|tN<|rE<|pu2<|sAdd tot (((colsN b0.w b0.h tw th)*(rowsN b0.w b0.h tw th))+1)<|pu1<|nB<|rE<|sAdd (i:Int) 1<|pu1<|nT ?_
 have a4:=((z3.picks [3,3]).dropAt 3 rfl)
 have hLi:L.od[i]?=some c0:=by rw [hLd];exact w0
 exact ⟨(i+1,(tot+(((colsN b0.w b0.h tw th)*(rowsN b0.w b0.h tw th))+1)),(fl.set ((c0).toNat) tot),u3,(cl.set ((c0).toNat) (((colsN b0.w b0.h tw th)*(rowsN b0.w b0.h tw th))+1)),x3),od,alA,a4,om,v3,y3,(layw_step hg hLi hF hT hcn om om),(by rw [sum_take hLi,<-hT,<-hcn])⟩
theorem p20_low (p:Job) (tw:Int) (th:Int) (hp:Job.Ok [H] p) (hb:p.inputs.n<=1000000/\p.stages.n<=1000000/\p.outputs.n<=1000000) (hS:Sat W w (H::F)):
  Calls prog 16 #[.agg (encJob p).toArray,I tw,I th] w fun e w'=>∃(az:Option Addr) (nz kz:Nat) (zs:List Task) (Z G:Chunk),e= .returned (.tuple #[.slice az nz kz,I (lowC p.v tw th)])/\OwnT encTask 46 9 az nz kz zs Z/\(∀z∈zs,Task.Ok [G] z)/\zs.map Task.v=lowV p.v tw th/\Sat W w' (Z::G::H::F):=by
 have hl_p_inputs:=hp.inputs.le;have hn_p_inputs:=hp.inputs.len
 have hl_p_stages:=hp.stages.le;have hn_p_stages:=hp.stages.len
 have hl_p_outputs:=hp.outputs.le;have hn_p_outputs:=hp.outputs.len
 refine callsA 39 func16 rfl<|sR<|sBox hS (.agg (encJob p).toArray) (encJob p).toArray fun o0 _ p0=>pu2<|zS<|lA p0 0 0 4 (isAgg28 _) (sizeOf28 _)<|pu2<|sF #[.agg (encJob p).toArray,I tw,I th] call46 (Calls.mono (p20_plan (F:=[]) p tw th ⟨(RdT.flat (hp.inputs.up 1 (by rfl))),(fun z hz=>(hp.inputsD z hz).of_mem (mem_flat1 1 (by rfl))),(RdT.flat (hp.stages.up 1 (by rfl))),(fun z hz=>(hp.stagesD z hz).of_mem (mem_flat1 1 (by rfl))),(RdT.flat (hp.outputs.up 1 (by rfl)))⟩ om p0.flat) ?_)
 rintro _ _ (⟨c0,rfl,g0⟩|⟨c0,e0,a0,q0,rfl,b0,t0,u0,hx2_13,v0,w0,g0⟩)
 ·refine ⟨_,rfl,?_⟩
  have x0:=g0.unflat
  refine pu5<|zQ<|pu2<|nT<|cT _ (bne_iff_ne.2 c0)<|sR<|pu3<|zR<|retT [nS,I (lowC p.v tw th)] ?_
  have y0:=(x0.dropAt 0 rfl)
  have z0:Sat W _ ([]::[]::H::F):=Sat.nilc (Sat.nilc y0)
  exact ⟨none,0,0,[],_,_,rfl,OwnT.nil fR,(fun z hz=>by cases hz),by unfold lowV;rw [if_neg c0];rfl,z0⟩
 ·refine ⟨_,rfl,?_⟩
  obtain ⟨h0,i0⟩:∃z:Chunk,z=q0++(([(o0, .cells (encJob p).toArray 28 (0,0))]::H::F):List Chunk).flatten:=⟨_,rfl⟩;rw [<-i0] at b0;have j0:=g0;rw [<-i0] at j0
  have hl_x_8_jobInputs:=b0.jobInputs.le;have hn_x_8_jobInputs:=b0.jobInputs.len
  have hl_x_8_jobStages:=b0.jobStages.le;have hn_x_8_jobStages:=b0.jobStages.len
  have hl_x_8_jobOutputs:=b0.jobOutputs.le;have hn_x_8_jobOutputs:=b0.jobOutputs.len
  have hl_x_8_order:=b0.order.le;have hn_x_8_order:=b0.order.len
  have hl_x_8_shapes:=b0.shapes.le;have hn_x_8_shapes:=b0.shapes.len
  have hl_x_8_first:=b0.first.le;have hn_x_8_first:=b0.first.len
  have hl_x_8_count:=b0.count.le;have hn_x_8_count:=b0.count.len
  have hg:=u0;have hx2:=hx2_13;have hW:=v0;have htt:=w0
  refine pu5<|zQ<|pu2<|nT<|cFf<|kS<|pu1<|zQ<|pu3<|sL j0 0 6 (.slice a0.order.a a0.order.n a0.order.k) (isAgg22 _)<|pu2<|nT<|blockE ?_
  have a1:=Sat.nilc j0
  have b1:=OwnT.nil (enc:=encTask) (E:=46) (sz:=9) fR
  refine loopA (γ:=Nat×(List Task)×(Option Addr)×Nat×Nat×Chunk×Chunk) (fun ⟨i,zs,azs,nzs,kzs,czs,Gzs⟩=>[(8,Pt e0 0),(26, .slice a0.order.a a0.order.n a0.order.k),(27,I (a0.order.n:Int)),(28,I (i:Int)),(10, .slice azs nzs kzs)]) (fun ⟨i,zs,azs,nzs,kzs,czs,Gzs⟩ w=>Sat W w [Gzs,czs,[(e0, .cells (encLayM a0).toArray 97 (0,0))],h0]/\i<=a0.order.n/\(zs.map Task.v=(a0.L.od.take i).flatMap a0.L.tasks)/\((zs.length:Int)=((a0.L.od.take i).map a0.L.cnt).sum)/\OwnT encTask 46 9 azs nzs kzs zs czs/\(∀z∈zs,Task.Ok [Gzs] z)) (fun ⟨i,zs,azs,nzs,kzs,czs,Gzs⟩=>a0.order.n-i) (0,[],none,0,0,[],[]) ⟨(Sat.nilc a1),om,by rfl,(by simp),b1,(by intro z hz;cases hz)⟩ ?_
  rintro ⟨i,zs,azs,nzs,kzs,czs,Gzs⟩ ρ d1 ⟨k0,hi,hE,hzl,hOzs,hDzs⟩
  have hn_zs:=hOzs.len;have hl_zs:=hOzs.le
  refine sR<|pu1<|nT<|seqE<|cD ((i:Int)<(a0.order.n:Int)) (fun e1=>?_) (fun e1=>?_)
  rotate_left
  ·refine exitE<|xB<|tN<|sR<|pu3<|zE<|retT [.slice azs nzs kzs,I 0] ?_
   have f1:=((k0.pick 1 rfl).dropAt 2 rfl)
   have g1:Sat W d1 (czs::Gzs::q0::[(o0, .cells (encJob p).toArray 28 (0,0))]::H::F):=by have h9:=f1;rw [i0] at h9;exact Sat.perm h9 (by simp [Value.cells])
   have h1:=(g1.drops [2,2])
   have hz:zs.map Task.v=lowV p.v tw th:=by unfold lowV;rw [if_pos c0,<-t0];unfold Lay.all;rw [hE,List.take_of_length_le (by show a0.order.l.length<=_;omega)]
   exact ⟨_,_,_,_,_,_,by rw [c0];rfl,hOzs,hDzs,hz,h1⟩
  refine kT<|seqE<|blockE<|sR<|sIdx b0.order (i:Int) runUnderlying22 sizeOf3 fun f0 _ _ d0 i1=>?_
  rw [Int.toNat_natCast] at d0
  have hnd:f0∈a0.L.od:=List.mem_of_getElem? d0;have hcb:=hg.cntb hnd;have hts:=take_sum_le hg i;have hts1:=take_sum_le hg (i+1);rw [sum_take (l:=a0.L.od) d0] at hts1
  refine sLp k0 (i1.up 3 rfl) 0 (I f0) (isAgg3 _)<|pu1<|nT<|rE<|pu3 ?_
  have j1:=(k0.pick 2 rfl)
  refine cX call47 (p20_tasks (b0.of_mem (mem_flat1 2 (by rfl))) f0 hg hx2 hW hnd htt j1.flat1) ?_
  rintro _ _ ⟨_,k1,_,r0,_,l0,rfl,m0,l1,s0,m1⟩
  have n1:=m1.unflat3;have hn_az_37:=m0.len;have hl_az_37:=m0.le
  have hzl_az_37:(r0.length:Int)=a0.L.cnt f0:=by rw [<-tasks_len hg hnd,<-s0,List.length_map]
  refine sApp (nb:=88) n1 hOzs 4 (m0.rdAt 0 rfl) underlying39 (i:=Tryz.t46) kr fR fun o1 q1 n0 _ r1 s1=>pu1<|nB<|rE<|sAdd (i:Int) 1<|pu1<|nT ?_
  have t1:=((s1.picks [4,4,3]).dropAt 3 rfl)
  exact ⟨(i+1,(zs++r0),o1,(nzs+k1),q1,n0,(l0++Gzs)),od,alA,(Sat.perm (cs':=(l0++Gzs)::(n0::[(e0, .cells (encLayM a0).toArray 97 (0,0))]::h0::[])) (show Sat W _ [l0,Gzs,n0,[(e0, .cells (encLayM a0).toArray 97 (0,0))],h0] from t1) (by simp)),om,(by rw [List.map_append,hE,s0,<-take_flat (l:=a0.L.od) d0]),(by rw [List.length_append,sum_take (l:=a0.L.od) d0,<-hzl,<-hzl_az_37];push_cast;rfl),r1,(by
    intro z hz
    rcases List.mem_append.1 hz with h|h
    ·exact (hDzs z h).of_mem mS
    ·exact (l1 z h).of_mem mS)⟩
theorem p20_cells (p:Job) (tw:Int) (th:Int) (hp:Job.Ok [H] p) (hb:p.inputs.n<=1000000/\p.stages.n<=1000000/\p.outputs.n<=1000000) (hS:Sat W w (H::F)):
  Calls prog 20 #[.agg (encJob p).toArray,I tw,I th] w fun e w'=>e= .returned (.tuple #[I (celV p.v tw th),I (lowC p.v tw th)])/\Sat W w' (H::F):=by
 have hl_p_inputs:=hp.inputs.le;have hn_p_inputs:=hp.inputs.len
 have hl_p_stages:=hp.stages.le;have hn_p_stages:=hp.stages.len
 have hl_p_outputs:=hp.outputs.le;have hn_p_outputs:=hp.outputs.len
 refine callsA 73 func20 rfl<|sR<|sBox hS (.agg (encJob p).toArray) (encJob p).toArray fun s0 _ t0=>pu2<|zS<|lA t0 0 0 4 (isAgg28 _) (sizeOf28 _)<|pu2<|sF #[.agg (encJob p).toArray,I tw,I th] call46 (Calls.mono (p20_plan (F:=[]) p tw th ⟨(RdT.flat (hp.inputs.up 1 (by rfl))),(fun z hz=>(hp.inputsD z hz).of_mem (mem_flat1 1 (by rfl))),(RdT.flat (hp.stages.up 1 (by rfl))),(fun z hz=>(hp.stagesD z hz).of_mem (mem_flat1 1 (by rfl))),(RdT.flat (hp.outputs.up 1 (by rfl)))⟩ om t0.flat) ?_)
 rintro _ _ (⟨h0,rfl,l0⟩|⟨h0,i0,a0,u0,rfl,c0,z0,a1,hx2_13,b1,d1,l0⟩)
 ·refine ⟨_,rfl,?_⟩
  have e1:=l0.unflat
  exact pu5<|zQ<|pu2<|nT<|cT _ (bne_iff_ne.2 h0)<|sR<|pu3<|zR<|retT [I 0,I (lowC p.v tw th)]<|⟨by unfold celV;rw [if_neg h0];rfl,(e1.dropAt 0 rfl)⟩
 ·refine ⟨_,rfl,?_⟩
  obtain ⟨v0,m0⟩:∃z:Chunk,z=u0++(([(s0, .cells (encJob p).toArray 28 (0,0))]::H::F):List Chunk).flatten:=⟨_,rfl⟩;rw [<-m0] at c0;have n0:=l0;rw [<-m0] at n0
  have hl_x_8_jobInputs:=c0.jobInputs.le;have hn_x_8_jobInputs:=c0.jobInputs.len
  have hl_x_8_jobStages:=c0.jobStages.le;have hn_x_8_jobStages:=c0.jobStages.len
  have hl_x_8_jobOutputs:=c0.jobOutputs.le;have hn_x_8_jobOutputs:=c0.jobOutputs.len
  have hl_x_8_order:=c0.order.le;have hn_x_8_order:=c0.order.len
  have hl_x_8_shapes:=c0.shapes.le;have hn_x_8_shapes:=c0.shapes.len
  have hl_x_8_first:=c0.first.le;have hn_x_8_first:=c0.first.len
  have hl_x_8_count:=c0.count.le;have hn_x_8_count:=c0.count.len
  have hg:=a1;have hx2:=hx2_13;have hW:=b1;have htt:=d1
  refine pu5<|zQ<|pu2<|nT<|cFf<|kS<|pu1<|zQ<|pu3<|sL n0 0 7 (.slice a0.shapes.a a0.shapes.n a0.shapes.k) (isAgg61 _)<|pu2<|nT<|blockE<|loopA (γ:=Nat×Int) (fun ⟨i,c1⟩=>[(8,Pt i0 0),(29, .slice a0.shapes.a a0.shapes.n a0.shapes.k),(30,I (a0.shapes.n:Int)),(31,I (i:Int)),(10,I c1)]) (fun ⟨i,c1⟩ w=>Sat W w [[(i0, .cells (encLayM a0).toArray 97 (0,0))],v0]/\i<=a0.shapes.n/\(c1=((a0.L.sh.take i).map fun m=>m.w*m.h).sum)) (fun ⟨i,c1⟩=>a0.shapes.n-i) (0,0) ⟨n0,om,(by simp)⟩ ?_
  rintro ⟨i,c1⟩ ρ _ ⟨j0,hi,hE⟩
  refine sR<|pu1<|nT<|seqE<|cD ((i:Int)<(a0.shapes.n:Int)) (fun g1=>?_) (fun g1=>?_)
  ·refine kT<|seqE<|blockE<|sR<|sIdx c0.shapes (i:Int) runUnderlying61 sizeOf54 fun b0 _ _ o0 h1=>?_
   rw [Int.toNat_natCast] at o0
   have hgl:=hg.len;have hgn0:=hg.ni;simp only [LayM.L] at hgl hgn0
   have hsz:=sh_bd hg (show a0.L.sh[i]?=some b0 from o0);unfold szP at hsz;have hcs:=cellsum_le hg i (show i<=a0.shapes.l.length by omega);have hmw:=mul_bd (a:=b0.w) (b:=b0.h) (A:=128) (B:=128) om om
   refine sLpA j0 (h1.up 1 rfl) 0 [I b0.w,I b0.h,I b0.max_] (isAgg54 _) (sizeOf54 _)<|sAlloc j0 zeroValue54 fun _ _ i1=>?_
   exact sT i1 0 0 (.agg #[I b0.w,I b0.h,I b0.max_]) [I b0.w,I b0.h,I b0.max_] #[I b0.w,I b0.h,I b0.max_] sizeOf54 fun _ p0=>nT<|rE<|pu2<|sL p0 0 0 (I b0.w) (isAgg3 _)<|pu1<|sL p0 0 1 (I b0.h) (isAgg3 _)<|sMul b0.w b0.h<|sAdd c1 (b0.w*b0.h)<|pu1<|nB<|rE<|sAdd (i:Int) 1<|pu1<|nT<|⟨(i+1,(c1+(b0.w*b0.h))),od,alA,(p0.dropAt 0 rfl),om,(by rw [List.take_add_one,show a0.L.sh[i]?=some b0 from o0,Option.toList_some,List.map_append,List.sum_append,<-hE];simp)⟩
  refine exitE<|xB<|tN<|seqE<|sR<|pu3<|sL j0 0 6 (.slice a0.order.a a0.order.n a0.order.k) (isAgg22 _)<|pu2<|nT<|blockE<|loopA (γ:=Nat×Int) (fun ⟨j,c2⟩=>[(8,Pt i0 0),(46, .slice a0.order.a a0.order.n a0.order.k),(47,I (a0.order.n:Int)),(48,I (j:Int)),(10,I c2)]) (fun ⟨j,c2⟩ w=>Sat W w [[(i0, .cells (encLayM a0).toArray 97 (0,0))],v0]/\j<=a0.order.n/\(c2=c1+((a0.L.od.take j).map (histC a0.L)).sum)) (fun ⟨j,c2⟩=>a0.order.n-j) (0,c1) ⟨j0,om,(by simp)⟩ ?_
  rintro ⟨j,c2⟩ ρ k1 ⟨q0,hj,hE2⟩
  have hgl:=hg.len;have hgn0:=hg.ni;have hgo:=hg.ln;simp only [LayM.L] at hgl hgn0 hgo;have hcs9:=cellsum_le hg i (show i<=a0.shapes.l.length by omega)
  refine sR<|pu1<|nT<|seqE<|cD ((j:Int)<(a0.order.n:Int)) (fun l1=>?_) (fun l1=>?_)
  rotate_left
  ·refine exitE<|xB<|tN<|sR<|pu3<|zE<|retT [I c2,I 0] ?_
   have m1:=(q0.dropAt 0 rfl)
   have n1:Sat W k1 (u0::[(s0, .cells (encJob p).toArray 28 (0,0))]::H::F):=by have h9:=m1;rw [m0] at h9;exact Sat.perm h9 (by simp [Value.cells])
   have o1:=(n1.drops [0,0])
   have hz:c2=celV p.v tw th:=by unfold celV;rw [if_pos h0,<-z0];unfold Lay.cells;rw [hE2,hE,List.take_of_length_le (by show a0.shapes.l.length<=_;omega),List.take_of_length_le (l:=a0.L.od) (by show a0.order.l.length<=_;omega)];rfl
   exact ⟨by rw [h0,<-hz];rfl,o1⟩
  refine kT<|seqE<|blockE<|sR<|sIdx c0.order (j:Int) runUnderlying22 sizeOf3 fun e0 _ _ k0 q1=>?_
  rw [Int.toNat_natCast] at k0
  have hnd:e0∈a0.L.od:=List.mem_of_getElem? k0;have hcb:=hg.cntb hnd;have hrn:=hg.rng e0 hnd;have hgn:=hg.ni;simp only [LayM.L,List.length_map] at hrn hgn;have hbk:=hg.byt hnd;have hhs:=histsum_le hg j (show j<=a0.order.l.length by omega);have hhb:=hist_bd hg hnd
  have hb2:=(List.getElem?_eq_some_iff.1 (hW e0 hnd).2).1
  refine sLp q0 (q1.up 1 rfl) 0 (I e0) (isAgg3 _)<|pu1<|zS<|pu2<|cX call60 (p20_stage (c0.of_mem (mem_flat1 0 (by rfl))) e0 om om q0.flat1) ?_
  rintro _ _ ⟨d0,rfl,w0,r1⟩
  have s1:=r1.unflat1
  have hok_q_46:=c0.jobStagesD d0 (List.mem_of_getElem? w0);have hst_q_46:=lay_st w0
  refine sAlloc s1 zeroValue38 fun t1 _ u1=>?_
  refine sT u1 0 0 (.agg (encStage d0).toArray) (encStage d0) (encStage d0).toArray sizeOf38 fun _ g0=>zS<|pu1<|sL g0 0 0 (I d0.kind) (isAgg3 _)<|pu1<|nT<|cE d0.kind 4 (fun r0=>?_) (fun r0=>?_)
  rotate_left
  ·refine skipE<|bN<|tN<|rE<|sAdd (j:Int) 1<|pu1<|nT ?_
   exact ⟨(j+1,c2),od,alA,(g0.dropAt 0 rfl),om,(by rw [sum_take (l:=a0.L.od) k0,show histC a0.L e0=0 from by unfold histC;rw [hst_q_46,if_neg (show ¬d0.v.kind=4 from r0)],hE2];omega)⟩
  have hhc:histC a0.L e0=d0.bins*(a0.L.cnt e0-1):=by unfold histC;rw [hst_q_46,if_pos (show d0.v.kind=4 from r0)];rfl
  rw [hst_q_46] at hbk;unfold bytOK at hbk;simp only [Stage.v] at hbk
  obtain ⟨f0,x0,y0,w1,x1,y1⟩:=RdT.elem c0.count e0
  have hc_x_54:a0.L.cnt e0=f0:=Option.some.inj ((hW e0 hnd).2.symm.trans w1)
  have hmq:=mul_bd (a:=d0.bins) (b:=f0-1) (A:=128) (B:=16384) om om
  refine drawE [] [(2,⟨t1,15,none⟩,I d0.bins),(6,⟨i0,9,none⟩, .slice a0.count.a a0.count.n a0.count.k),(9,⟨x0,y0,none⟩,I f0)] [(true,[0,1,3,4,5,7]),(true,[2]),(true,[6]),(true,[8]),(true,[9]),(true,[10]),(true,[11]),(true,[12]),(true,[13])] rfl kr ⟨cI g0 0,cI g0 1, .inr ((x1.up 2 rfl).cell g0 (k:=0) rfl),trivial⟩ ?_
  have z1:=g0.drew
  exact wU [0,1,3,4,5,7]<|wLd (I d0.bins) 0 isAgg3<|wLd (.slice a0.count.a a0.count.n a0.count.k) 1 isAgg22<|wY (.pointer (some ⟨x0,y0,none⟩)) rfl (fun w _=>Y_idx (a:=a0.count.a) (i:=e0) (len:=a0.count.n) (cap:=a0.count.k) rfl runUnderlying22 sizeOf3 kr kr y1)<|wLd (I f0) 2 isAgg3<|wSub f0 1<|wMul d0.bins (f0-1)<|wAdd c2 (d0.bins*(f0-1))<|wU [13]<|wN<|bN<|tN<|rE<|sAdd (j:Int) 1<|pu1<|nT<|⟨(j+1,(c2+(d0.bins*(f0-1)))),od,alA,(z1.dropAt 0 rfl),om,(by rw [sum_take (l:=a0.L.od) k0,hhc,hc_x_54,hE2];omega)⟩
end Go.Proofs.YtdingplbadblpaaGreat
namespace Go.E
set_option linter.all false
section
variable {P:Program} {n:Nat} {ρ:Env} {W w:World} {cs:List Chunk} {ops:Array Oper} {rest:List Oper} {N:Env->World->Prop} {o:Oper}
end
end Go.E

namespace Go.Proofs.YtdingplbadblpaaGreat
open Go Go.E Go.Proofs.Tryz
set_option linter.all false
set_option maxRecDepth 100000
set_option maxHeartbeats 2000000
variable {W w:World} {H:Chunk} {F:List Chunk}
def ixs (L:Lay) (k:Nat):List Int:=(List.range k).map fun (i:Nat)=>L.ni+(i:Int)
theorem LayG.perm {L:Lay} (g:LayG L):(ixs L L.ss.length).Perm L.od:=by
  refine (List.perm_ext_iff_of_nodup ?_ g.nd).2 (fun x=>?_)
  · unfold ixs
    rw [List.nodup_iff_pairwise_ne,List.pairwise_map]
    exact List.Pairwise.imp (fun h=>by omega) List.pairwise_lt_range
  · unfold ixs
    simp only [List.mem_map,List.mem_range]
    constructor
    · rintro ⟨i,hi,rfl⟩;exact g.every _ (by omega) (by omega)
    · intro hx;have:=g.rng x hx;exact ⟨(x-L.ni).toNat,by omega,by omega⟩
end Go.Proofs.YtdingplbadblpaaGreat

namespace Go.Proofs.YtdingplbadblpaaGreat
open Go Go.E Go.Proofs.Tryz
set_option linter.all false
set_option maxRecDepth 100000
set_option maxHeartbeats 2000000
variable {W w:World} {H:Chunk} {F:List Chunk}
end Go.Proofs.YtdingplbadblpaaGreat

namespace Go.Proofs.YtdingplbadblpaaGreat
open Go Go.E Go.Proofs.Tryz
set_option linter.all false
set_option maxRecDepth 100000
set_option maxHeartbeats 2000000
variable {W w:World} {H:Chunk} {F:List Chunk}
end Go.Proofs.YtdingplbadblpaaGreat

namespace Go.Proofs.YtdingplbadblpaaGreat
open Go Go.E Go.Proofs.Tryz
set_option linter.all false
set_option maxRecDepth 100000
set_option maxHeartbeats 2000000
variable {W w:World} {H:Chunk} {F:List Chunk}
end Go.Proofs.YtdingplbadblpaaGreat

namespace Go.Proofs.YtdingplbadblpaaGreat
open Go Go.E Go.Proofs.Tryz
set_option linter.all false
set_option maxRecDepth 100000
set_option maxHeartbeats 2000000
variable {W w:World} {H:Chunk} {F:List Chunk}
def numS (k:Nat) (z:Int):Prop:=-4611686018427387904-(k:Int)<=z/\z<=4611686018427387904+(k:Int)
def planeS (k:Nat) (q:Plane):Prop:=(numS k q.w/\numS k q.h/\numS k q.max_)/\q.pix.l.length<=64+k/\∀z∈q.pix.l,numS k z
end Go.Proofs.YtdingplbadblpaaGreat

namespace Go.Proofs.YtdingplbadblpaaGreat
open Go Go.E Go.Proofs.Tryz
set_option linter.all false
set_option maxRecDepth 100000
set_option maxHeartbeats 2000000
variable {W w:World} {H:Chunk} {F:List Chunk}
def jobS (k:Nat) (q:Job):Prop:=(q.inputs.l.length<=2/\∀z∈q.inputs.l,planeS k z)/\(q.stages.l.length<=4/\∀z∈q.stages.l,stageB k z)/\(q.outputs.l.length<=2+k/\∀z∈q.outputs.l,numB z)/\numB q.priority
theorem jobB_S {q:Job} (h:jobB 0 q):jobS 0 q:=by
  refine ⟨⟨h.1.1,fun z hz=>?_⟩,h.2⟩
  have h1:=h.1.2 z hz
  have e:∀x,numB x->numS 0 x:=fun x hx=>by unfold numB at hx;unfold numS;omega
  exact ⟨⟨e _ h1.2.1,e _ h1.2.2.1,e _ h1.2.2.2⟩,by have:=h1.1.1;omega,fun y hy=>e _ (h1.1.2 y hy)⟩
end Go.Proofs.YtdingplbadblpaaGreat

namespace Go.Proofs.YtdingplbadblpaaGreat
open Go Go.E Go.Proofs.Tryz
set_option linter.all false
set_option maxRecDepth 100000
set_option maxHeartbeats 2000000
variable {W w:World} {H:Chunk} {F:List Chunk}
theorem ord_outs {I:List PlaneV} {S:List StageV} {O:List Int} {p:Int} (h1:chkCode ⟨I,S,O,p⟩=0) (h2:chkCode (jobOf I S p)=0):ordV ⟨I,S,O,p⟩=ordV (jobOf I S p):=by
  unfold ordV
  rw [if_pos h1,if_pos h2];rfl
theorem good_chk {I:List PlaneV} {S:List StageV} {O:List Int} {p:Int} (h:Good I S p) (h1:1<=S.length) (hO:1<=O.length/\O.length<=2) (hr:inR ((I.length:Nat)+(S.length:Nat)) O=true):chkCode ⟨I,S,O,p⟩=0:=by
  unfold chkCode
  dsimp only
  have hn:=h.ni;have hs:=h.ns;have hp:=h.pr
  rw [if_pos (by omega),if_pos hp,if_pos,if_pos hr]
  rw [List.all_eq_true]
  intro s hs2
  obtain ⟨m,hm⟩:=List.getElem?_of_mem hs2
  unfold inR
  rw [List.all_eq_true]
  intro x hx
  have:=h.od m s hm x hx
  have hml:m<S.length:=(List.getElem?_eq_some_iff.1 hm).1
  exact decide_eq_true (by omega)
theorem shp_outs {I:List PlaneV} {S:List StageV} {O:List Int} {p:Int} {l:List Shape} (h:Good I S p) (hr:runS (I.map shpOf) S=some l) (h1:1<=S.length) (hO:1<=O.length/\O.length<=2) (hi:inR ((I.length:Nat)+(S.length:Nat)) O=true):shpV ⟨I,S,O,p⟩=(l,0,0):=by
  have c1:=good_chk h h1 hO hi
  have c2:=good_chk (O:=[0]) h h1 (by simp) (by unfold inR;simp;have:=h.ni;omega)
  have e:=(shp_run h h1).1 l hr
  have eo:=ord_outs c1 c2
  unfold shpV at e⊢
  rw [eo]
  exact e
theorem runS_pre:∀(S:List StageV) (out l:List Shape),runS out S=some l->∃z,l=out++z
  |[],out,l,h=>by simp only [runS,Option.some.injEq] at h;exact ⟨[],by simp [h]⟩
  |s::S,out,l,h=>by
    rw [runS] at h
    split at h
    · obtain ⟨z,hz⟩:=runS_pre S _ l h
      exact ⟨_,by rw [hz,List.append_assoc]⟩
    · cases h
theorem runS_len:∀(S:List StageV) (out l:List Shape),runS out S=some l->l.length=out.length+S.length
  |[],out,l,h=>by simp only [runS,Option.some.injEq] at h;subst h;simp
  |s::S,out,l,h=>by
    rw [runS] at h
    split at h
    · rw [runS_len S _ l h];simp;omega
    · cases h
theorem runS_at:∀(S:List StageV) (out l:List Shape) (m:Nat) (s:StageV),runS out S=some l->S[m]?=some s->∃cur z,cur.length=out.length+m/\l=cur++z/\(stOf cur s).2=0/\l[out.length+m]?=some (stOf cur s).1
 |s::S,out,l,0,t,h,hm=>by
  obtain rfl:s=t:=by simpa using hm
  rw [runS] at h
  split at h
  ·rename_i hc
   obtain ⟨z,hz⟩:=runS_pre S _ l h
   refine ⟨out,(stOf out s).1::z,rfl,by rw [hz,List.append_assoc];rfl,hc,?_⟩
   rw [hz,List.append_assoc,Nat.add_zero,List.getElem?_append_right (Nat.le_refl _),Nat.sub_self];rfl
  ·cases h
 |s::S,out,l,m+1,t,h,hm=>by
  rw [runS] at h
  split at h
  ·obtain ⟨cur,z,h1,h2,h3,h4⟩:=runS_at S _ l m t h (by simpa using hm)
   rw [List.length_append,List.length_singleton] at h1 h4
   exact ⟨cur,z,om,h2,h3,by rw [show out.length+(m+1)=out.length+1+m by omega];exact h4⟩
  ·cases h
theorem runsIn {I:List PlaneV} {S:List StageV} {l:List Shape} {i:Nat} {z:PlaneV} {x:Shape} (hr:runS (I.map shpOf) S=some l) (hz:I[i]?=some z) (hx:l[i]?=some x):x=shpOf z:=by
  obtain ⟨y,rfl⟩:=runS_pre _ _ _ hr
  have hi:=(List.getElem?_eq_some_iff.1 hz).1
  rw [List.getElem?_append_left (by rw [List.length_map];exact hi),List.getElem?_map,hz] at hx
  exact (Option.some.inj hx).symm
theorem run_st {I:List PlaneV} {S:List StageV} {p:Int} {l:List Shape} {m k:Nat} {s:StageV} {x:Shape} (h:Good I S p) (hr:runS (I.map shpOf) S=some l) (hs:S[m]?=some s) (hx:l[k]?=some x) (hk:k=I.length+m):ofV s (shpAt l s.a) (if twoP s then shpAt l s.b else ⟨0,0,0⟩)=(x,0):=by
 subst hk
 obtain ⟨cur,z,h1,h2,h3,h4⟩:=runS_at S _ l m s hr hs
 rw [List.length_map] at h1 h4
 rw [hx] at h4
 have ha:=h.od m s hs s.a (by unfold srcs;split<;>simp)
 have e1:shpAt l s.a=shpAt cur s.a:=by rw [h2];exact shpAt_app ha.1 om
 have e2:(if twoP s then shpAt l s.b else ⟨0,0,0⟩)=(if twoP s then shpAt cur s.b else ⟨0,0,0⟩):=by
  by_cases ht:twoP s
  ·rw [if_pos ht,if_pos ht,h2]
   have hb:=h.od m s hs s.b (by unfold srcs;rw [if_pos ht];simp)
   exact shpAt_app hb.1 om
  ·rw [if_neg ht,if_neg ht]
 rw [e1,e2]
 show stOf cur s=_
 rw [Option.some.inj h4,<-h3]
theorem of_small {q:StageV} {s t x:Shape} (h:ofV q s t=(x,0)) (hs:s.w*s.h<=128) (hx:q.x.length<=6) (hy:q.y.length<=6):x.w*x.h<=128:=by
 have hk:∀z,kernelV q s t=(z,0)->z.w*z.h<=128:=by
  intro z hz
  unfold kernelV at hz
  by_cases h1:q.kind=1
  ·rw [if_pos h1] at hz;rw [<-(Prod.mk.inj hz).1];exact hs
  rw [if_neg h1] at hz
  by_cases h2:q.kind=2
  ·rw [if_pos h2] at hz;rw [<-(Prod.mk.inj hz).1];exact hs
  rw [if_neg h2] at hz
  by_cases h3:q.kind=3
  ·rw [if_pos h3] at hz;rw [<-(Prod.mk.inj hz).1]
   have:=mul_bd (a:=(q.x.length:Int)) (b:=q.y.length) (A:=6) (B:=6) om om
   dsimp only;omega
  rw [if_neg h3] at hz
  by_cases h4:q.kind=4
  ·rw [if_pos h4] at hz
   split at hz
   ·rw [<-(Prod.mk.inj hz).1];dsimp only;omega
   ·exact absurd (Prod.mk.inj hz).2 om
  rw [if_neg h4] at hz
  by_cases h5:q.kind=5
  ·rw [if_pos h5] at hz
   split at hz<;>(rw [<-(Prod.mk.inj hz).1];exact hs)
  rw [if_neg h5] at hz
  split at hz
  ·split at hz<;>(rw [<-(Prod.mk.inj hz).1];exact hs)
  ·rw [<-(Prod.mk.inj hz).1];exact hs
 unfold ofV at h
 split at h
 ·split at h
  ·split at h
   ·split at h
    ·rename_i h0;exact hk x (by rw [<-(Prod.mk.inj h).1,<-h0])
    ·rename_i h0;exact absurd (Prod.mk.inj h).2 h0
   ·exact absurd (Prod.mk.inj h).2 om
  ·exact absurd (Prod.mk.inj h).2 om
 ·exact absurd (Prod.mk.inj h).2 om
theorem made_small {I:List PlaneV} {S:List StageV} {p:Int} {l:List Shape} (h:Good I S p) (hr:runS (I.map shpOf) S=some l) (hI:∀z∈I,z.pix.length<=64) (hS:∀s∈S,s.x.length<=6/\s.y.length<=6):
  ∀(b k:Nat),k<=b->∀x:Shape,l[k]?=some x->x.w*x.h<=128:=by
 intro b
 induction b with
 |zero=>
  intro k hk x hx
  have h1:=h.ni
  obtain ⟨z,hz⟩:∃z,I[k]?=some z:=⟨_,List.getElem?_eq_getElem om⟩
  rw [runsIn hr hz hx]
  have hp:=List.all_eq_true.1 h.pl z (List.mem_of_getElem? hz)
  unfold planeOK at hp
  rw [Bool.and_eq_true] at hp
  have h2:=(of_decide_eq_true hp.1).2
  have:=hI z (List.mem_of_getElem? hz)
  show z.w*z.h<=128
  omega
 |succ b ih=>
  intro k hkb x hx
  by_cases hk:k<I.length
  ·obtain ⟨z,hz⟩:∃z,I[k]?=some z:=⟨_,List.getElem?_eq_getElem hk⟩
   rw [runsIn hr hz hx]
   have hp:=List.all_eq_true.1 h.pl z (List.mem_of_getElem? hz)
   unfold planeOK at hp
   rw [Bool.and_eq_true] at hp
   have h2:=(of_decide_eq_true hp.1).2
   have:=hI z (List.mem_of_getElem? hz)
   show z.w*z.h<=128
   omega
  ·have hl:=runS_len S _ l hr
   rw [List.length_map] at hl
   have hkl:=(List.getElem?_eq_some_iff.1 hx).1
   obtain ⟨s,hs⟩:∃s,S[k-I.length]?=some s:=⟨_,List.getElem?_eq_getElem om⟩
   have ho:=run_st h hr hs hx om
   have ha:=h.od _ s hs s.a (by unfold srcs;split<;>simp)
   have hxy:=hS s (List.mem_of_getElem? hs)
   obtain ⟨y,hy⟩:∃y,l[s.a.toNat]?=some y:=⟨_,List.getElem?_eq_getElem om⟩
   have hi:=ih s.a.toNat om y hy
   refine of_small ho ?_ hxy.1 hxy.2
   have e:shpAt l s.a=y:=by unfold shpAt;rw [hy];rfl
   rw [e];exact hi
theorem ceil_le {a b:Int} (ha:1<=a) (hb:1<=b):ceilV a b<=a:=by
  unfold ceilV
  rw [if_pos (by omega)]
  have h1:=Int.emod_def a b
  have h2:=Int.emod_nonneg a (show b≠0 by omega)
  have h4:0<=a/b:=Int.ediv_nonneg (by omega) (by omega)
  have h5:a/b<=b*(a/b):=by
    have:=Int.mul_le_mul_of_nonneg_right hb h4
    omega
  split<;>omega
theorem made_cnt {L:Lay} (g:LayG L) (hs:∀x:Int,0<=x->x<L.ni+(L.ss.length:Int)->(shpAt L.sh x).w*(shpAt L.sh x).h<=128) {n:Int} (hn:n∈L.od):L.cnt n<=129:=by
 have hf:=g.fine hn
 have hc:(L.cut n).w*(L.cut n).h<=128:=by
  unfold Lay.cut
  have hr:=g.rng n hn
  have hni:=g.ni
  split
  ·have:=g.src hn _ (a_src _);exact hs _ this.1 this.2.1
  ·exact hs _ om hr.2
 have hg:=g.grid hn
 have h1:L.nx n<=(L.cut n).w:=by unfold Lay.nx colsN;rw [if_pos hf];exact ceil_le hf.1.1 hf.2.2.1.1
 have h2:L.ny n<=(L.cut n).h:=by unfold Lay.ny rowsN;rw [if_pos hf];exact ceil_le hf.2.1.1 hf.2.2.2.1
 have h3:L.nx n*L.ny n<=(L.cut n).w*(L.cut n).h:=Int.mul_le_mul h1 h2 om (by have:=hf.1.1;omega)
 unfold Lay.cnt
 split<;>omega
theorem sum_le {f:Int->Int} {c:Int}:∀l:List Int,(∀x∈l,f x<=c)->(l.map f).sum<=c*l.length
  |[],_=>by simp
  |x::l,h=>by
    have h1:=sum_le l (fun y hy=>h y (by simp [hy]))
    have h2:=h x (by simp)
    simp only [List.map_cons,List.sum_cons,List.length_cons]
    rw [show c*((l.length+1:Nat):Int)=c*l.length+c by push_cast;rw [Int.mul_add,Int.mul_one]]
    omega
structure MadeL (j:JobV) (tw th:Int):Prop where
  z:lowC j tw th=0
  v:lowV j tw th=(layV j tw th).all
  g:LayG (layV j tw th)
  c:∀n∈(layV j tw th).od,(layV j tw th).cnt n<=129
  s:j.stages.length<=4/\1<=j.stages.length
  t:(layV j tw th).total<=516
theorem made_low {j:JobV} {l:List Shape} (h:Good j.inputs j.stages j.priority) (hr:runS (j.inputs.map shpOf) j.stages=some l) (hI:∀z∈j.inputs,z.pix.length<=64) (hS:∀s∈j.stages,s.x.length<=6/\s.y.length<=6)
  (h1:1<=j.stages.length/\j.stages.length<=4) (hO:1<=j.outputs.length/\j.outputs.length<=2) (hi:inR ((j.inputs.length:Nat)+(j.stages.length:Nat)) j.outputs=true) {tw th:Int} (ht:tileP tw th):MadeL j tw th:=by
 have hv:shpV j=(l,0,0):=shp_outs h hr h1.1 hO hi
 have hg:LayG (layV j tw th):=lay_ok (shp_ok (by rw [hv])) ht
 have hll:=runS_len j.stages _ l hr
 rw [List.length_map] at hll
 have hc:∀n∈(layV j tw th).od,(layV j tw th).cnt n<=129:=by
  intro n hn
  refine made_cnt hg ?_ hn
  intro x h0 h2
  have h2':x<(j.inputs.length:Int)+j.stages.length:=h2
  obtain ⟨y,hy⟩:∃y,l[x.toNat]?=some y:=⟨_,List.getElem?_eq_getElem om⟩
  have e:shpAt (layV j tw th).sh x=y:=by unfold shpAt layV;dsimp only;rw [hv];dsimp only;rw [hy];rfl
  rw [e]
  exact made_small h hr hI hS x.toNat x.toNat (Nat.le_refl _) y hy
 have htot:(layV j tw th).total<=516:=by
  have h2:=sum_le (layV j tw th).od hc
  have h3:(layV j tw th).od.length=j.stages.length:=hg.ln
  unfold Lay.total
  omega
 have hz:lowC j tw th=0:=by unfold lowC;rw [if_pos (by rw [hv]),if_pos ht,if_pos om]
 exact ⟨hz,by unfold lowV;rw [if_pos hz],hg,hc,⟨h1.2,h1.1⟩,htot⟩
section
variable {L:Lay} (g:LayG L)
include g
end
section
variable {L:Lay} (g:LayG L)
include g
end
section
variable {L:Lay} (g:LayG L)
include g
end
structure Cfg where
  workers:Int
  tileW:Int
  tileH:Int
  arena:Int
  deque:Int
  tasks:Int
  cells:Int
  jobs:Int
  deriving DecidableEq
def encCfg (x:Cfg):List Value:=[.int .i64 x.workers, .int .i64 x.tileW, .int .i64 x.tileH, .int .i64 x.arena, .int .i64 x.deque, .int .i64 x.tasks, .int .i64 x.cells, .int .i64 x.jobs]
structure Lod where
  jobs:Int
  tasks:Int
  cells:Int
  deriving DecidableEq
theorem DecR.of_enc {x:List Int} {j0 j:JobV} {c:Int} (h:DecR x j c) (hw:wfJob j0) (hx:x=[84,70,1]++bytesOf (nJob j0)) (hl:x.length<=262144):c=0/\j=j0:=by
  have h0:=h.all hl j0 hw hx
  obtain ⟨h1,_,h3⟩:=h.ok h0
  rw [hx] at h3
  exact ⟨h0,((pfJob j0 j [] [] hw h1 (by simpa using h3)).1).symm⟩
theorem DecR.code {x:List Int} {j:JobV} {c:Int} (h:DecR x j c):c=0\/(c=5/\262144<x.length)\/(c=4/\x.length<=262144):=by
  by_cases h0:c=0
  · exact .inl h0
  · obtain ⟨_,h2⟩:=h.bad h0
    by_cases h3:262144<x.length
    · rw [if_pos h3] at h2;omega
    · rw [if_neg h3] at h2;omega
theorem enc_bytes (l:List Int):Bytes ([84,70,1]++bytesOf l):=Bytes.app (by intro b hb;simp at hb;omega) (bytesOf_bytes l)
theorem enc_len (l:List Int):([84,70,1]++bytesOf l).length=3+8*l.length:=by rw [List.length_append,bytesOf_len];rfl
def cfgP (c:Cfg):Prop:=(1<=c.workers/\c.workers<=64)/\(1<=c.tileW/\c.tileW<=64)/\(1<=c.tileH/\c.tileH<=64)/\(0<=c.arena/\c.arena<=1048576)/\(1<=c.deque/\c.deque<=256)/\(1<=c.tasks/\c.tasks<=4096)/\(1<=c.cells/\c.cells<=1048576)/\1<=c.jobs/\c.jobs<=64
instance (c:Cfg):Decidable (cfgP c):=by unfold cfgP;infer_instance
def cfgV (c:Cfg):Int:=if cfgP c then 0 else 2
def admP (c:Cfg) (l:Lod):Prop:=cfgV c=0/\0<=l.jobs/\0<=l.tasks/\0<=l.cells
theorem cfg_of {c:Cfg} (h:cfgV c=0):cfgP c:=by
  unfold cfgV at h
  split at h
  · assumption
  · omega
def overA (c:Cfg) (ts:List TaskV):Bool:=ts.any fun z=>decide (c.arena<z.scratch)
def admT (c:Cfg) (l:Lod) (ts:List TaskV) (m:Int):Int:=if c.tasks-l.tasks<(ts.length:Int) then 13 else if overA c ts=true then 12 else if c.cells-l.cells<m then 14 else 0
def admD (c:Cfg) (l:Lod) (dj:JobV) (dc:Int):Int:=
  if dc≠0 then dc else if (shpV dj).2.2≠0 then (shpV dj).2.2 else if lowC dj c.tileW c.tileH≠0 then lowC dj c.tileW c.tileH else admT c l (lowV dj c.tileW c.tileH) (celV dj c.tileW c.tileH)
def AdmR (c:Cfg) (l:Lod) (x:List Int) (ts:List TaskV) (m e:Int):Prop:=
  (e=2/\¬admP c l)\/(e=15/\admP c l/\c.jobs<=l.jobs)\/(admP c l/\l.jobs<c.jobs/\∃dj dc,DecR x dj dc/\e=admD c l dj dc/\(e=0->ts=lowV dj c.tileW c.tileH/\m=celV dj c.tileW c.tileH))
theorem AdmR.full {c:Cfg} {l:Lod} {x:List Int} {ts:List TaskV} {m e:Int} (h:AdmR c l x ts m e) (hp:admP c l) (hj:c.jobs<=l.jobs):e=15:=by
  rcases h with ⟨_,h⟩|⟨h,_,_⟩|⟨_,h,_⟩
  · exact absurd hp h
  · exact h
  · omega
theorem flat_gf {α:Type} {f:α->List Int} (hf:∀z,1<=(f z).length):∀l:List α,l.length<=(l.flatMap f).length
  |[]=>by simp
  |x::l=>by
    have:=flat_gf hf l;have:=hf x
    simp only [List.flatMap_cons,List.length_append,List.length_cons];omega
theorem dec_bd {x:List Int} {q:Job} {c:Int} {cs:List Chunk} (h:DecR x q.v c) (hq:Job.Ok cs q):q.inputs.n<=1000000/\q.stages.n<=1000000/\q.outputs.n<=1000000:=by
 have h1:=hq.inputs.len;have h2:=hq.stages.len;have h3:=hq.outputs.len
 by_cases e:c=0
 ·obtain ⟨_,hl,hx⟩:=h.ok e
  rw [hx,enc_len] at hl
  have e1:=flat_gf (f:=nPlane) (fun z=>by unfold nPlane;simp only [List.length_append,List.length_cons];omega) (q.inputs.l.map Plane.v)
  have e2:=flat_gf (f:=nStage) (fun z=>by unfold nStage;simp only [List.length_append,List.length_cons];omega) (q.stages.l.map Stage.v)
  have e3:q.outputs.l.length<=(nInts q.outputs.l).length:=by unfold nInts;simp
  rw [List.length_map] at e1 e2
  unfold nJob Job.v at hl
  dsimp only at hl
  simp only [List.length_append,List.length_cons] at hl
  omega
 ·have hb:=(h.bad e).1
  have b1:=congrArg (fun j=>j.inputs.length) hb;have b2:=congrArg (fun j=>j.stages.length) hb;have b3:=congrArg (fun j=>j.outputs.length) hb
  simp only [Job.v,List.length_map,List.length_nil] at b1 b2 b3
  omega
theorem dec_cut {x:List Int} {j dj:JobV} {dc:Int} (hj:wfJob j) {y:List Int} (hy:[84,70,1]++bytesOf (nJob j)=y++x) (h0:0<x.length) (hd:DecR y dj dc) (hl:y.length<=262144):dc=4:=by
  by_cases e:dc=0
  · obtain ⟨hw,_,e2⟩:=hd.ok e
    rw [e2] at hy
    simp only [List.cons_append,List.nil_append,List.cons.injEq,true_and] at hy
    have:=(pfJob dj j x [] hw hj (by rw [List.append_nil];exact hy.symm)).2
    subst this;simp at h0
  · have:=(hd.bad e).2
    rw [if_neg (by omega)] at this;exact this
theorem dec_more {j dj:JobV} {dc:Int} (hj:wfJob j) {x y:List Int} (hy:y=([84,70,1]++bytesOf (nJob j))++x) (h0:0<x.length) (hd:DecR y dj dc) (hl:y.length<=262144):dc=4:=by
  by_cases e:dc=0
  · obtain ⟨hw,_,e2⟩:=hd.ok e
    rw [e2] at hy
    simp only [List.cons_append,List.nil_append,List.cons.injEq,true_and] at hy
    have:=(pfJob dj j [] x hw hj (by rw [List.append_nil];exact hy)).2
    subst this;simp at h0
  · have:=(hd.bad e).2
    rw [if_neg (by omega)] at this;exact this
theorem p26_within (n0:Int) (lo:Int) (hi:Int) (hS:Sat W w (H::F)):
  Ro prog 120 #[I n0,I lo,I hi] (.bool (decide (lo<=n0/\n0<=hi))) W w (H::F):=by
 refine callsA 15 func120 rfl<|sR<|pu1<|zS<|pu4<|sD 10 (n0>=lo) (fun a0=>?_) (fun a0=>?_)
 rotate_left
 ·exact pu5<|zE<|retT [.bool false]<|⟨rB (by rw [Bool.eq_iff_iff];simp [*]<;>omega),hS⟩
 exact pu5<|zE<|retT [.bool (decide ((n0:Int)<=hi))]<|⟨rB (by rw [Bool.eq_iff_iff];simp [*]<;>omega),hS⟩
theorem p26_valid (c:Cfg) (hS:Sat W w (H::F)):
  Ro prog 80 #[.agg (encCfg c).toArray] (I (cfgV c)) W w (H::F):=by
 refine callsA 44 func80 rfl<|sR<|sBox hS (.agg (encCfg c).toArray) (encCfg c).toArray fun _ _ h0=>pu1<|zS<|pu1<|sL h0 0 0 (I c.workers) (isAgg3 _)<|cR call120 (p26_within c.workers 1 64 h0.flat) fun _ a0=>pu1<|sD 7 (1<=c.workers/\c.workers<=64) (fun j0=>?_) (fun j0=>?_)
 rotate_left
 ·exact pu16<|pu16<|pu3<|zQ<|pu2<|zC<|pu1<|zR<|retT [I 2]<|⟨by unfold cfgV;rw [if_neg (by unfold cfgP;omega)];rfl,(a0.dropAt 0 rfl)⟩
 refine pu1<|gY<|sL a0 0 1 (I c.tileW) (isAgg3 _)<|gY<|cR call120 (p26_within c.tileW 1 64 a0.flat) fun _ b0=>pu2<|sD 12 (1<=c.tileW/\c.tileW<=64) (fun l0=>?_) (fun l0=>?_)
 rotate_left
 ·exact pu16<|pu14<|zQ<|pu2<|zC<|pu1<|zR<|retT [I 2]<|⟨by unfold cfgV;rw [if_neg (by unfold cfgP;omega)];rfl,(b0.dropAt 0 rfl)⟩
 refine pu1<|gY<|sL b0 0 2 (I c.tileH) (isAgg3 _)<|gY<|cR call120 (p26_within c.tileH 1 64 b0.flat) fun _ c0=>pu2<|sD 17 (1<=c.tileH/\c.tileH<=64) (fun n0=>?_) (fun n0=>?_)
 rotate_left
 ·exact pu16<|pu9<|zQ<|pu2<|zC<|pu1<|zR<|retT [I 2]<|⟨by unfold cfgV;rw [if_neg (by unfold cfgP;omega)];rfl,(c0.dropAt 0 rfl)⟩
 refine pu1<|gY<|sL c0 0 3 (I c.arena) (isAgg3 _)<|gY<|cR call120 (p26_within c.arena 0 1048576 c0.flat) fun _ d0=>pu2<|sD 22 (0<=c.arena/\c.arena<=1048576) (fun p0=>?_) (fun p0=>?_)
 rotate_left
 ·exact pu16<|pu4<|zQ<|pu2<|zC<|pu1<|zR<|retT [I 2]<|⟨by unfold cfgV;rw [if_neg (by unfold cfgP;omega)];rfl,(d0.dropAt 0 rfl)⟩
 refine pu1<|gY<|sL d0 0 4 (I c.deque) (isAgg3 _)<|gY<|cR call120 (p26_within c.deque 1 256 d0.flat) fun _ e0=>pu2<|sD 27 (1<=c.deque/\c.deque<=256) (fun r0=>?_) (fun r0=>?_)
 rotate_left
 ·exact pu15<|zQ<|pu2<|zC<|pu1<|zR<|retT [I 2]<|⟨by unfold cfgV;rw [if_neg (by unfold cfgP;omega)];rfl,(e0.dropAt 0 rfl)⟩
 refine pu1<|gY<|sL e0 0 5 (I c.tasks) (isAgg3 _)<|gY<|cR call120 (p26_within c.tasks 1 4096 e0.flat) fun _ f0=>pu2<|sD 32 (1<=c.tasks/\c.tasks<=4096) (fun t0=>?_) (fun t0=>?_)
 rotate_left
 ·exact pu10<|zQ<|pu2<|zC<|pu1<|zR<|retT [I 2]<|⟨by unfold cfgV;rw [if_neg (by unfold cfgP;omega)];rfl,(f0.dropAt 0 rfl)⟩
 refine pu1<|gY<|sL f0 0 6 (I c.cells) (isAgg3 _)<|gY<|cR call120 (p26_within c.cells 1 1048576 f0.flat) fun _ g0=>pu2<|sD 37 (1<=c.cells/\c.cells<=1048576) (fun v0=>?_) (fun v0=>?_)
 rotate_left
 ·exact pu5<|zQ<|pu2<|zC<|pu1<|zR<|retT [I 2]<|⟨by unfold cfgV;rw [if_neg (by unfold cfgP;omega)];rfl,(g0.dropAt 0 rfl)⟩
 refine pu1<|gY<|sL g0 0 7 (I c.jobs) (isAgg3 _)<|gY<|cR call120 (p26_within c.jobs 1 64 g0.flat) fun _ i0=>pu2<|zQ<|pu2<|nT<|cDn (1<=c.jobs/\c.jobs<=64) (fun x0=>?_) (fun x0=>?_)
 rotate_left
 ·exact sR<|pu1<|zR<|retT [I 2]<|⟨by unfold cfgV;rw [if_neg (by unfold cfgP;omega)];rfl,(i0.dropAt 0 rfl)⟩
 exact kS<|pu1<|zE<|retT [I 0]<|⟨by unfold cfgV;rw [if_pos (by unfold cfgP;omega)];rfl,(i0.dropAt 0 rfl)⟩
theorem p26_chk (c:Cfg) (l:Lod) {a:Option Addr} {n k:Nat} {xs:List Int} (hR:RdT encB 1 [H] a n k xs) (bd:Bytes xs) (hl:l.jobs<=9223372036854775807/\l.tasks<=9223372036854775807/\l.cells<=9223372036854775807) (hS:Sat W w (H::F)):
  Calls prog 77 #[.agg (encCfg c).toArray, .agg #[I l.jobs,I l.tasks,I l.cells], .slice a n k] w fun e w'=>∃(q:Job) (az:Option Addr) (nz kz:Nat) (zs:List Task) (m e0:Int) (Z G:Chunk),e= .returned (.tuple #[.agg (encJob q).toArray, .slice az nz kz,I m,I e0])/\OwnT encTask 46 9 az nz kz zs Z/\(∀z∈zs,Task.Ok [G] z)/\AdmR c l xs (zs.map Task.v) m e0/\Sat W w' (Z::G::H::F):=by
 have hle:=hR.le
 refine callsA 114 func77 rfl<|sR<|sBox hS (.agg (encCfg c).toArray) (encCfg c).toArray fun s0 _ k1=>sBox k1 (.agg #[I l.jobs,I l.tasks,I l.cells]) #[I l.jobs,I l.tasks,I l.cells] fun t0 _ l1=>sAlloc l1 zeroValue28 fun u0 _ v0=>pu3<|zQ<|lA v0 2 0 8 (isAgg70 _) (sizeOf70 _)<|cR call80 (p26_valid c v0.flat) fun _ b0=>pu2<|sN 15 (cfgV c) 0 (fun m1=>?_) (fun m1=>?_)
 rotate_left
 ·refine pu14<|zC<|lA b0 0 0 4 (isAgg28 _) (sizeOf28 _)<|sT b0 0 0 (.agg #[nS,nS,nS,I 0]) [nS,nS,nS,I 0] #[nS,nS,nS,I 0] sizeOf28 fun _ w0=>pu3<|zR<|retN (vs:=[.agg #[nS,nS,nS,I 0],nS,I 0,I 2]) rfl (.cons (.cell _ _ _ _ kr (lvA w0 0 0 [nS,nS,nS,I 0] (isAgg28 _) (sizeOf28 _) rfl rfl rfl)) (.cons (.tmp _ _ kr) (.cons (.tmp _ _ kr) (.cons (.tmp _ _ kr) .nil)))) ?_
  have n1:=(w0.drops [0,0,0])
  have o1:Sat W _ ([]::[]::H::F):=Sat.nilc (Sat.nilc n1)
  refine ⟨(⟨⟨none,0,0,[]⟩,⟨none,0,0,[]⟩,⟨none,0,0,[]⟩,0⟩:Job),none,0,0,[],0,2,_,_,rfl,OwnT.nil fR,(fun z hz=>by cases hz),?_,o1⟩
  first|exact .inl ⟨rfl,by unfold admP;omega⟩|(exfalso;omega)
 refine pu1<|gY<|sL b0 1 0 (I l.jobs) (isAgg3 _)<|pu3<|sD 20 (l.jobs<0) (fun q1=>?_) (fun q1=>?_)
 ·refine pu9<|zC<|lA b0 0 0 4 (isAgg28 _) (sizeOf28 _)<|sT b0 0 0 (.agg #[nS,nS,nS,I 0]) [nS,nS,nS,I 0] #[nS,nS,nS,I 0] sizeOf28 fun _ x0=>pu3<|zR<|retN (vs:=[.agg #[nS,nS,nS,I 0],nS,I 0,I 2]) rfl (.cons (.cell _ _ _ _ kr (lvA x0 0 0 [nS,nS,nS,I 0] (isAgg28 _) (sizeOf28 _) rfl rfl rfl)) (.cons (.tmp _ _ kr) (.cons (.tmp _ _ kr) (.cons (.tmp _ _ kr) .nil)))) ?_
  have r1:=(x0.drops [0,0,0])
  have s1:Sat W _ ([]::[]::H::F):=Sat.nilc (Sat.nilc r1)
  refine ⟨(⟨⟨none,0,0,[]⟩,⟨none,0,0,[]⟩,⟨none,0,0,[]⟩,0⟩:Job),none,0,0,[],0,2,_,_,rfl,OwnT.nil fR,(fun z hz=>by cases hz),?_,s1⟩
  first|exact .inl ⟨rfl,by unfold admP;omega⟩|(exfalso;omega)
 refine pu1<|gY<|sL b0 1 1 (I l.tasks) (isAgg3 _)<|pu3<|sD 25 (l.tasks<0) (fun t1=>?_) (fun t1=>?_)
 ·refine pu4<|zC<|lA b0 0 0 4 (isAgg28 _) (sizeOf28 _)<|sT b0 0 0 (.agg #[nS,nS,nS,I 0]) [nS,nS,nS,I 0] #[nS,nS,nS,I 0] sizeOf28 fun _ y0=>pu3<|zR<|retN (vs:=[.agg #[nS,nS,nS,I 0],nS,I 0,I 2]) rfl (.cons (.cell _ _ _ _ kr (lvA y0 0 0 [nS,nS,nS,I 0] (isAgg28 _) (sizeOf28 _) rfl rfl rfl)) (.cons (.tmp _ _ kr) (.cons (.tmp _ _ kr) (.cons (.tmp _ _ kr) .nil)))) ?_
  have u1:=(y0.drops [0,0,0])
  have v1:Sat W _ ([]::[]::H::F):=Sat.nilc (Sat.nilc u1)
  refine ⟨(⟨⟨none,0,0,[]⟩,⟨none,0,0,[]⟩,⟨none,0,0,[]⟩,0⟩:Job),none,0,0,[],0,2,_,_,rfl,OwnT.nil fR,(fun z hz=>by cases hz),?_,v1⟩
  first|exact .inl ⟨rfl,by unfold admP;omega⟩|(exfalso;omega)
 refine pu1<|gY<|sL b0 1 2 (I l.cells) (isAgg3 _)<|pu2<|nT<|cD (l.cells<0) (fun w1=>?_) (fun w1=>?_)
 ·refine sR<|lA b0 0 0 4 (isAgg28 _) (sizeOf28 _)<|sT b0 0 0 (.agg #[nS,nS,nS,I 0]) [nS,nS,nS,I 0] #[nS,nS,nS,I 0] sizeOf28 fun _ z0=>pu3<|zR<|retN (vs:=[.agg #[nS,nS,nS,I 0],nS,I 0,I 2]) rfl (.cons (.cell _ _ _ _ kr (lvA z0 0 0 [nS,nS,nS,I 0] (isAgg28 _) (sizeOf28 _) rfl rfl rfl)) (.cons (.tmp _ _ kr) (.cons (.tmp _ _ kr) (.cons (.tmp _ _ kr) .nil)))) ?_
  have x1:=(z0.drops [0,0,0])
  have y1:Sat W _ ([]::[]::H::F):=Sat.nilc (Sat.nilc x1)
  refine ⟨(⟨⟨none,0,0,[]⟩,⟨none,0,0,[]⟩,⟨none,0,0,[]⟩,0⟩:Job),none,0,0,[],0,2,_,_,rfl,OwnT.nil fR,(fun z hz=>by cases hz),?_,y1⟩
  first|exact .inl ⟨rfl,by unfold admP;omega⟩|(exfalso;omega)
 refine kT<|seqE<|sR<|pu1<|sL b0 1 0 (I l.jobs) (isAgg3 _)<|pu1<|sL b0 2 7 (I c.jobs) (isAgg3 _)<|pu1<|nT<|cD (l.jobs>=c.jobs) (fun z1=>?_) (fun z1=>?_)
 ·refine sR<|lA b0 0 0 4 (isAgg28 _) (sizeOf28 _)<|sT b0 0 0 (.agg #[nS,nS,nS,I 0]) [nS,nS,nS,I 0] #[nS,nS,nS,I 0] sizeOf28 fun _ a1=>pu3<|zR<|retN (vs:=[.agg #[nS,nS,nS,I 0],nS,I 0,I 15]) rfl (.cons (.cell _ _ _ _ kr (lvA a1 0 0 [nS,nS,nS,I 0] (isAgg28 _) (sizeOf28 _) rfl rfl rfl)) (.cons (.tmp _ _ kr) (.cons (.tmp _ _ kr) (.cons (.tmp _ _ kr) .nil)))) ?_
  have a2:=(a1.drops [0,0,0])
  have b2:Sat W _ ([]::[]::H::F):=Sat.nilc (Sat.nilc a2)
  refine ⟨(⟨⟨none,0,0,[]⟩,⟨none,0,0,[]⟩,⟨none,0,0,[]⟩,0⟩:Job),none,0,0,[],0,15,_,_,rfl,OwnT.nil fR,(fun z hz=>by cases hz),?_,b2⟩
  exact .inr (.inl ⟨rfl,⟨by first|assumption|omega,om,om,om⟩,om⟩)
 refine kT<|seqE<|sR<|pu1<|sF #[.slice a n k] call39 (Calls.mono (codec_decode W _ _ [] _ _ _ xs (RdT.flat (hR.up 3 (by rfl))) bd b0.flat) ?_)
 rintro _ _ ⟨a0,c2,d0,rfl,c0,g0,b1⟩
 refine ⟨_,rfl,?_⟩
 have d2:=b1.unflat1;clear b1
 have hdb:=dec_bd g0 c0;have hcf:=cfg_of (c:=c) om;unfold cfgP at hcf
 refine pu3<|sT d2 1 0 (.agg (encJob a0).toArray) (encJob a0) (encJob a0).toArray sizeOf28 fun _ p0=>pu1<|zS<|pu2<|nT<|cN d0 0 (fun e2=>?_) (fun e2=>?_)
 rotate_left
 ·refine sR<|lA p0 1 0 4 (isAgg28 _) (sizeOf28 _)<|pu1<|sT p0 1 0 (.agg (encJob a0).toArray) (encJob a0) (encJob a0).toArray sizeOf28 fun _ c1=>pu3<|zR<|retN (vs:=[.agg (encJob a0).toArray,nS,I 0,I d0]) rfl (.cons (.cell _ _ _ _ kr (lvA c1 1 0 (encJob a0) (isAgg28 _) (sizeOf28 _) rfl rfl rfl)) (.cons (.tmp _ _ kr) (.cons (.tmp _ _ kr) (.cons (.tmp _ _ kr) .nil)))) ?_
  have hk:d0=admD c l a0.v d0:=by unfold admD;rw [if_pos om]
  have f2:=(c1.drops [0,0,0,0])
  have g2:Sat W _ ([]::[]::H::F):=Sat.nilc (Sat.nilc f2)
  exact ⟨(⟨a0.inputs,a0.stages,a0.outputs,a0.priority⟩:Job),none,0,0,[],0,d0,_,_,rfl,OwnT.nil fR,(fun z hz=>by cases hz), .inr (.inr ⟨⟨by first|assumption|omega,om,om,om⟩,om,_,_,g0,hk,(fun h=>absurd h om)⟩),g2⟩
 refine kT<|seqE<|sR<|lA p0 1 0 4 (isAgg28 _) (sizeOf28 _)<|cR call40 (p17_check a0 ⟨(RdT.flat (c0.inputs.up 0 (by rfl))),(fun z hz=>(c0.inputsD z hz).of_mem (mem_flat1 0 (by rfl))),(RdT.flat (c0.stages.up 0 (by rfl))),(fun z hz=>(c0.stagesD z hz).of_mem (mem_flat1 0 (by rfl))),(RdT.flat (c0.outputs.up 0 (by rfl)))⟩ (od) p0.flat) fun _ j0=>pu4<|zS<|pu2<|nT<|cN ((shpV a0.v).2.2) 0 (fun h2=>?_) (fun h2=>?_)
 rotate_left
 ·refine sR<|lA j0 1 0 4 (isAgg28 _) (sizeOf28 _)<|pu1<|sT j0 1 0 (.agg (encJob a0).toArray) (encJob a0) (encJob a0).toArray sizeOf28 fun _ d1=>pu3<|zR<|retN (vs:=[.agg (encJob a0).toArray,nS,I 0,I ((shpV a0.v).2.2)]) rfl (.cons (.cell _ _ _ _ kr (lvA d1 1 0 (encJob a0) (isAgg28 _) (sizeOf28 _) rfl rfl rfl)) (.cons (.tmp _ _ kr) (.cons (.tmp _ _ kr) (.cons (.tmp _ _ kr) .nil)))) ?_
  have hk:(shpV a0.v).2.2=admD c l a0.v d0:=by unfold admD;rw [if_neg om,if_pos om]
  have i2:=(d1.drops [0,0,0,0])
  have j2:Sat W _ ([]::[]::H::F):=Sat.nilc (Sat.nilc i2)
  exact ⟨(⟨a0.inputs,a0.stages,a0.outputs,a0.priority⟩:Job),none,0,0,[],0,(shpV a0.v).2.2,_,_,rfl,OwnT.nil fR,(fun z hz=>by cases hz), .inr (.inr ⟨⟨by first|assumption|omega,om,om,om⟩,om,_,_,g0,hk,(fun h=>absurd h om)⟩),j2⟩
 refine kT<|seqE<|sR<|lA j0 1 0 4 (isAgg28 _) (sizeOf28 _)<|pu1<|sL j0 3 1 (I c.tileW) (isAgg3 _)<|pu1<|sL j0 3 2 (I c.tileH) (isAgg3 _)<|cX call16 (p20_low (F:=[]) a0 c.tileW c.tileH ⟨(RdT.flat (c0.inputs.up 0 (by rfl))),(fun z hz=>(c0.inputsD z hz).of_mem (mem_flat1 0 (by rfl))),(RdT.flat (c0.stages.up 0 (by rfl))),(fun z hz=>(c0.stagesD z hz).of_mem (mem_flat1 0 (by rfl))),(RdT.flat (c0.outputs.up 0 (by rfl)))⟩ om j0.flat) ?_
 rintro _ _ ⟨q0,f0,r0,k2,l2,m2,rfl,m0,n2,n0,o2⟩
 have h0:=o2.unflat2;have hn_az_52:=m0.len;have hl_az_52:=m0.le
 have hzl:((lowV a0.v c.tileW c.tileH).length:Int)=f0:=by rw [<-n0,List.length_map];have h:=m0.len;omega
 refine pu5<|zS<|pu2<|nT<|cN (lowC a0.v c.tileW c.tileH) 0 (fun q2=>?_) (fun q2=>?_)
 rotate_left
 ·refine sR<|lA h0 3 0 4 (isAgg28 _) (sizeOf28 _)<|pu1<|sT h0 3 0 (.agg (encJob a0).toArray) (encJob a0) (encJob a0).toArray sizeOf28 fun _ e1=>pu3<|zR<|retN (vs:=[.agg (encJob a0).toArray,nS,I 0,I (lowC a0.v c.tileW c.tileH)]) rfl (.cons (.cell _ _ _ _ kr (lvA e1 3 0 (encJob a0) (isAgg28 _) (sizeOf28 _) rfl rfl rfl)) (.cons (.tmp _ _ kr) (.cons (.tmp _ _ kr) (.cons (.tmp _ _ kr) .nil)))) ?_
  have hk:(lowC a0.v c.tileW c.tileH)=admD c l a0.v d0:=by unfold admD;rw [if_neg om,if_neg om,if_pos om]
  have r2:=(e1.drops [0,0,0,0,0,0])
  have s2:Sat W _ ([]::[]::H::F):=Sat.nilc (Sat.nilc r2)
  exact ⟨(⟨a0.inputs,a0.stages,a0.outputs,a0.priority⟩:Job),none,0,0,[],0,(lowC a0.v c.tileW c.tileH),_,_,rfl,OwnT.nil fR,(fun z hz=>by cases hz), .inr (.inr ⟨⟨by first|assumption|omega,om,om,om⟩,om,_,_,g0,hk,(fun h=>absurd h om)⟩),s2⟩
 refine kT<|seqE<|sR<|pu3<|sL h0 5 5 (I c.tasks) (isAgg3 _)<|pu1<|sL h0 4 1 (I l.tasks) (isAgg3 _)<|sSub c.tasks l.tasks<|pu1<|nT<|cD ((f0:Int)>(c.tasks-l.tasks)) (fun t2=>?_) (fun t2=>?_)
 ·refine sR<|lA h0 3 0 4 (isAgg28 _) (sizeOf28 _)<|sT h0 3 0 (.agg (encJob a0).toArray) (encJob a0) (encJob a0).toArray sizeOf28 fun _ f1=>pu3<|zR<|retN (vs:=[.agg (encJob a0).toArray,nS,I 0,I 13]) rfl (.cons (.cell _ _ _ _ kr (lvA f1 3 0 (encJob a0) (isAgg28 _) (sizeOf28 _) rfl rfl rfl)) (.cons (.tmp _ _ kr) (.cons (.tmp _ _ kr) (.cons (.tmp _ _ kr) .nil)))) ?_
  have hk:13=admD c l a0.v d0:=by unfold admD;rw [if_neg om,if_neg om,if_neg om];unfold admT;rw [if_pos om]
  have u2:=(f1.drops [0,0,0,0,0,0])
  have v2:Sat W _ ([]::[]::H::F):=Sat.nilc (Sat.nilc u2)
  exact ⟨(⟨a0.inputs,a0.stages,a0.outputs,a0.priority⟩:Job),none,0,0,[],0,13,_,_,rfl,OwnT.nil fR,(fun z hz=>by cases hz), .inr (.inr ⟨⟨by first|assumption|omega,om,om,om⟩,om,_,_,g0,hk,(fun h=>absurd h om)⟩),v2⟩
 refine kT<|seqE<|sR<|pu3<|nT<|blockE<|loopA (γ:=Nat) (fun i=>[(3,Pt s0 0),(4,Pt t0 0),(6,Pt u0 0),(77, .slice q0 f0 r0),(78,I (f0:Int)),(79,I (i:Int)),(7, .slice q0 f0 r0)]) (fun i w=>Sat W w (l2::m2::c2::[(u0, .cells (encJob a0).toArray 28 (0,0))]::[(t0, .cells #[I l.jobs,I l.tasks,I l.cells] 73 (0,0))]::[(s0, .cells (encCfg c).toArray 70 (0,0))]::H::F)/\i<=f0/\((k2.take i).any ((fun z=>decide (c.arena<z.scratch))∘Task.v)=false)) (fun i=>f0-i) 0 ⟨h0,om,by rfl⟩ ?_
 rintro i ρ _ ⟨k0,hi,hE⟩
 refine sR<|pu1<|nT<|seqE<|cD ((i:Int)<(f0:Int)) (fun w2=>?_) (fun w2=>?_)
 ·refine kT<|seqE<|blockE<|sR<|sIdxO m0 (i:Int) i runUnderlying39 sizeOf46 fun i0 _ _ g1 x2 _=>sLpA k0 (x2.up 0 rfl) 0 (encTask i0) (isAgg46 _) (sizeOf46 _)<|sAlloc k0 zeroValue46 fun _ _ y2=>?_
  refine sT y2 0 0 (.agg (encTask i0).toArray) (encTask i0) (encTask i0).toArray sizeOf46 fun _ o0=>zS<|pu1<|sL o0 0 8 (I i0.scratch) (isAgg3 _)<|pu1<|sL o0 6 3 (I c.arena) (isAgg3 _)<|pu1<|nT<|cD (i0.scratch>c.arena) (fun z2=>?_) (fun z2=>?_)
  rotate_left
  ·exact skipE<|bN<|tN<|rE<|sAdd (i:Int) 1<|pu1<|nT<|⟨i+1,od,alA,(o0.dropAt 0 rfl),om,(any_take_no hE g1 (decide_eq_false (by simp only [Task.v];omega)))⟩
  refine sR<|lA o0 4 0 4 (isAgg28 _) (sizeOf28 _)<|sT o0 4 0 (.agg (encJob a0).toArray) (encJob a0) (encJob a0).toArray sizeOf28 fun _ h1=>pu3<|zB<|tR<|tK<|retN (vs:=[.agg (encJob a0).toArray,nS,I 0,I 12]) rfl (.cons (.cell _ _ _ _ kr (lvA h1 4 0 (encJob a0) (isAgg28 _) (sizeOf28 _) rfl rfl rfl)) (.cons (.tmp _ _ kr) (.cons (.tmp _ _ kr) (.cons (.tmp _ _ kr) .nil)))) ?_
  have hk:12=admD c l a0.v d0:=by unfold admD;rw [if_neg om,if_neg om,if_neg om];unfold admT;rw [if_neg om,if_pos (show overA c (lowV a0.v c.tileW c.tileH)=true from by unfold overA;rw [<-n0,List.any_map];exact any_of_at g1 (show decide (c.arena<i0.scratch)=true from decide_eq_true om))]
  have b3:=(h1.drops [0,0,0,0,0,0,0])
  have c3:Sat W _ ([]::[]::H::F):=Sat.nilc (Sat.nilc b3)
  exact ⟨(⟨a0.inputs,a0.stages,a0.outputs,a0.priority⟩:Job),none,0,0,[],0,12,_,_,rfl,OwnT.nil fR,(fun z hz=>by cases hz), .inr (.inr ⟨⟨by first|assumption|omega,om,om,om⟩,om,_,_,g0,hk,(fun h=>absurd h om)⟩),c3⟩
 refine exitE<|xB<|tN<|seqE<|sR<|lA k0 3 0 4 (isAgg28 _) (sizeOf28 _)<|pu1<|sL k0 5 1 (I c.tileW) (isAgg3 _)<|pu1<|sL k0 5 2 (I c.tileH) (isAgg3 _)<|cX call20 (p20_cells (F:=[]) a0 c.tileW c.tileH ⟨(RdT.flat (c0.inputs.up 2 (by rfl))),(fun z hz=>(c0.inputsD z hz).of_mem (mem_flat1 2 (by rfl))),(RdT.flat (c0.stages.up 2 (by rfl))),(fun z hz=>(c0.stagesD z hz).of_mem (mem_flat1 2 (by rfl))),(RdT.flat (c0.outputs.up 2 (by rfl)))⟩ om k0.flat) ?_
 rintro _ _ ⟨rfl,d3⟩
 have l0:=d3.unflat
 refine pu5<|zS<|pu2<|nT ?_
 have e3:((lowC a0.v c.tileW c.tileH):Int)=0:=by omega
 refine cF _ (bne_eq_false_iff_eq.2 e3)<|kT<|seqE<|sR<|pu2<|sL l0 5 6 (I c.cells) (isAgg3 _)<|pu1<|sL l0 4 2 (I l.cells) (isAgg3 _)<|sSub c.cells l.cells<|pu1<|nT<|cD ((celV a0.v c.tileW c.tileH)>(c.cells-l.cells)) (fun f3=>?_) (fun f3=>?_)
 rotate_left
 ·refine kS<|lA l0 3 0 4 (isAgg28 _) (sizeOf28 _)<|pu2<|sT l0 3 0 (.agg (encJob a0).toArray) (encJob a0) (encJob a0).toArray sizeOf28 fun _ i1=>pu3<|zE<|retN (vs:=[.agg (encJob a0).toArray, .slice q0 f0 r0,I (celV a0.v c.tileW c.tileH),I 0]) rfl (.cons (.cell _ _ _ _ kr (lvA i1 3 0 (encJob a0) (isAgg28 _) (sizeOf28 _) rfl rfl rfl)) (.cons (.tmp _ _ kr) (.cons (.tmp _ _ kr) (.cons (.tmp _ _ kr) .nil)))) ?_
  have hk:0=admD c l a0.v d0:=by unfold admD;rw [if_neg om,if_neg om,if_neg om];unfold admT;rw [if_neg om,if_neg (by rw [(show overA c (lowV a0.v c.tileW c.tileH)=false from by unfold overA;rw [<-n0,List.any_map];exact (by rw [List.take_of_length_le om] at hE;exact hE))];decide),if_neg om]
  exact ⟨(⟨a0.inputs,a0.stages,a0.outputs,a0.priority⟩:Job),_,_,_,_,(celV a0.v c.tileW c.tileH),0,_,_,rfl,m0,n2, .inr (.inr ⟨⟨by first|assumption|omega,om,om,om⟩,om,_,_,g0,hk,(fun _=>⟨n0,rfl⟩)⟩),(i1.drops [2,2,2,2])⟩
 refine sR<|lA l0 3 0 4 (isAgg28 _) (sizeOf28 _)<|sT l0 3 0 (.agg (encJob a0).toArray) (encJob a0) (encJob a0).toArray sizeOf28 fun _ j1=>pu3<|zR<|retN (vs:=[.agg (encJob a0).toArray,nS,I 0,I 14]) rfl (.cons (.cell _ _ _ _ kr (lvA j1 3 0 (encJob a0) (isAgg28 _) (sizeOf28 _) rfl rfl rfl)) (.cons (.tmp _ _ kr) (.cons (.tmp _ _ kr) (.cons (.tmp _ _ kr) .nil)))) ?_
 have hk:14=admD c l a0.v d0:=by unfold admD;rw [if_neg om,if_neg om,if_neg om];unfold admT;rw [if_neg om,if_neg (by rw [(show overA c (lowV a0.v c.tileW c.tileH)=false from by unfold overA;rw [<-n0,List.any_map];exact (by rw [List.take_of_length_le om] at hE;exact hE))];decide),if_pos om]
 have h3:=(j1.drops [0,0,0,0,0,0])
 have i3:Sat W _ ([]::[]::H::F):=Sat.nilc (Sat.nilc h3)
 exact ⟨(⟨a0.inputs,a0.stages,a0.outputs,a0.priority⟩:Job),none,0,0,[],0,14,_,_,rfl,OwnT.nil fR,(fun z hz=>by cases hz), .inr (.inr ⟨⟨by first|assumption|omega,om,om,om⟩,om,_,_,g0,hk,(fun h=>absurd h om)⟩),i3⟩
theorem adm_bad {c:Cfg} {l:Lod} {x:List Int} {ts ts':List TaskV} {m m' e:Int} (h:AdmR c l x ts m e) (he:¬e=0):AdmR c l x ts' m' e:=by
  rcases h with h|h|⟨h1,h2,dj,dc,h3,h4,h5⟩
  · exact .inl h
  · exact .inr (.inl h)
  · exact .inr (.inr ⟨h1,h2,dj,dc,h3,h4,fun h=>absurd h he⟩)
theorem p26_check (c:Cfg) (l:Lod) {a:Option Addr} {n k:Nat} {xs:List Int} (hR:RdT encB 1 [H] a n k xs) (bd:Bytes xs) (hl:l.jobs<=9223372036854775807/\l.tasks<=9223372036854775807/\l.cells<=9223372036854775807) (hS:Sat W w (H::F)):
  Calls prog 36 #[.agg (encCfg c).toArray, .agg #[I l.jobs,I l.tasks,I l.cells], .slice a n k] w fun e w'=>∃(q:Job) (az:Option Addr) (nz kz:Nat) (zs:List Task) (m e0:Int) (Z G:Chunk),e= .returned (.tuple #[.agg (encJob q).toArray, .slice az nz kz,I m,I e0])/\OwnT encTask 46 9 az nz kz zs Z/\(∀z∈zs,Task.Ok [G] z)/\AdmR c l xs (zs.map Task.v) m e0/\(e0≠0->zs=[]/\m=0)/\Sat W w' (Z::G::H::F):=by
 have hle:=hR.le
 refine callsA 30 func36 rfl<|sR<|sBox hS (.agg (encCfg c).toArray) (encCfg c).toArray fun _ _ k0=>sBox k0 (.agg #[I l.jobs,I l.tasks,I l.cells]) #[I l.jobs,I l.tasks,I l.cells] fun _ _ l0=>sAlloc l0 zeroValue28 fun _ _ b0=>pu3<|zS<|lA b0 2 0 8 (isAgg70 _) (sizeOf70 _)<|lA b0 1 0 3 (isAgg73 _) (sizeOf73 _)<|pu1<|cX call77 (p26_chk (F:=[]) c l (xs:=xs) (RdT.flat (hR.up 3 (by rfl))) bd (od) b0.flat) ?_
 rintro _ _ ⟨a0,m0,n0,o0,_,g0,e0_16,_,_,rfl,c0,p0,h0,q0⟩
 have r0:=q0.unflat2;have hn_az_11:=c0.len;have hl_az_11:=c0.le
 refine pu5<|sAlloc r0 zeroValue28 fun _ _ s0=>?_
 refine sT s0 0 0 (.agg (encJob a0).toArray) (encJob a0) (encJob a0).toArray sizeOf28 fun _ d0=>pu3<|zQ<|pu2<|nT<|cN e0_16 0 (fun f0=>?_) (fun f0=>?_)
 ·exact kS<|lA d0 0 0 4 (isAgg28 _) (sizeOf28 _)<|pu2<|sT d0 3 0 (.agg (encJob a0).toArray) (encJob a0) (encJob a0).toArray sizeOf28 fun _ i0=>pu3<|zE<|retN (vs:=[.agg (encJob a0).toArray, .slice m0 n0 o0,I g0,I 0]) rfl (.cons (.cell _ _ _ _ kr (lvA i0 3 0 (encJob a0) (isAgg28 _) (sizeOf28 _) rfl rfl rfl)) (.cons (.tmp _ _ kr) (.cons (.tmp _ _ kr) (.cons (.tmp _ _ kr) .nil))))<|⟨(⟨a0.inputs,a0.stages,a0.outputs,a0.priority⟩:Job),_,_,_,_,g0,0,_,_,rfl,c0,p0,(by have h:=h0;rw [f0] at h;exact h),(fun h=>absurd rfl h),(i0.drops [0,2,2,2])⟩
 refine sR<|pu2<|sT d0 3 0 (.agg #[nS,nS,nS,I 0]) [nS,nS,nS,I 0] #[nS,nS,nS,I 0] sizeOf28 fun _ j0=>pu3<|zR<|retN (vs:=[.agg #[nS,nS,nS,I 0],nS,I 0,I e0_16]) rfl (.cons (.cell _ _ _ _ kr (lvA j0 3 0 [nS,nS,nS,I 0] (isAgg28 _) (sizeOf28 _) rfl rfl rfl)) (.cons (.tmp _ _ kr) (.cons (.tmp _ _ kr) (.cons (.tmp _ _ kr) .nil)))) ?_
 have u0:=(j0.drops [0,0,0,0,0,0])
 have v0:Sat W _ ([]::[]::H::F):=Sat.nilc (Sat.nilc u0)
 exact ⟨(⟨⟨none,0,0,[]⟩,⟨none,0,0,[]⟩,⟨none,0,0,[]⟩,0⟩:Job),none,0,0,[],0,e0_16,_,_,rfl,OwnT.nil fR,(fun z hz=>by cases hz),adm_bad h0 f0,(fun _=>⟨rfl,rfl⟩),v0⟩
end Go.Proofs.YtdingplbadblpaaGreat

namespace Go.Proofs.YtdingplbadblpaaGreat
open Go Go.E Go.Proofs.Tryz
set_option linter.all false
set_option maxRecDepth 100000
set_option maxHeartbeats 2000000
variable {W w:World} {H:Chunk} {F:List Chunk}
theorem numS_wf {k:Nat} {z:Int} (h:numS k z) (hk:k<=100):WfI z:=by unfold numS at h;unfold WfI;omega
theorem numB_wf {z:Int} (h:numB z):WfI z:=by unfold numB at h;unfold WfI;omega
theorem wfL_of {α:Type} {wf:α->Prop} {l:List α} (hl:l.length<=1000000) (h:∀z∈l,wf z):wfL wf l:=⟨by unfold WfI;omega,h⟩
theorem wfL_map {α β:Type} {wf:β->Prop} {f:α->β} {l:List α} (hl:l.length<=1000000) (h:∀z∈l,wf (f z)):wfL wf (l.map f):=
  wfL_of (by rw [List.length_map];exact hl) (fun y hy=>by obtain ⟨z,hz,rfl⟩:=List.mem_map.1 hy;exact h z hz)
theorem tapB_wf {t:Tap} (h:tapB t):wfTap t.v:=⟨numB_wf h.1,wfL_of (by have:=h.2.1;simp only [Tap.v];omega) (fun z hz=>numB_wf (h.2.2 z hz))⟩
theorem planeS_wf {k:Nat} {q:Plane} (h:planeS k q) (hk:k<=100):wfPlane q.v:=
  ⟨numS_wf h.1.1 hk,numS_wf h.1.2.1 hk,numS_wf h.1.2.2 hk,wfL_of (by have:=h.2.1;simp only [Plane.v];omega) (fun z hz=>numS_wf (h.2.2 z hz) hk)⟩
theorem stageB_wf {k:Nat} {q:Stage} (h:stageB k q) (hk:k<=100):wfStage q.v:=by
 obtain ⟨⟨i0,i1,i2,i3,i4,i5,i6,i7,i8,i9,i10⟩,hw,hr,hc,hx,hy,ho⟩:=h
 have L:∀{l:List Int},(l.length<=64/\∀z∈l,numB z)->wfL WfI l:=fun h=>wfL_of om (fun z hz=>numB_wf (h.2 z hz))
 have T:∀{l:List Tap},(l.length<=6+k/\∀z∈l,tapB z)->wfL wfTap (l.map Tap.v):=fun h=>wfL_map om (fun z hz=>tapB_wf (h.2 z hz))
 exact ⟨numB_wf i0,numB_wf i1,numB_wf i2,trivial,numB_wf i3,numB_wf i4,numB_wf i5,numB_wf i6,L hw,L hr,L hc,numB_wf i7,numB_wf i8,T hx,T hy,numB_wf i9,
  wfL_of (by have:=ho.1;simp only [Stage.v];omega) (fun z hz=>⟨numB_wf (ho.2 z hz).1,numB_wf (ho.2 z hz).2⟩),numB_wf i10⟩
theorem jobS_wf {k:Nat} {q:Job} (h:jobS k q) (hk:k<=100):wfJob q.v:=
  ⟨numB_wf h.2.2.2,wfL_map (by have:=h.1.1;omega) (fun z hz=>planeS_wf (h.1.2 z hz) hk),wfL_map (by have:=h.2.1.1;omega) (fun z hz=>stageB_wf (h.2.1.2 z hz) hk),
    wfL_of (by have:=h.2.2.1.1;simp only [Job.v];omega) (fun z hz=>numB_wf (h.2.2.1.2 z hz))⟩
theorem flat_bd {α:Type} {f:α->List Int} {B:Nat}:∀{l:List α},(∀z∈l,(f z).length<=B)->(l.flatMap f).length<=l.length*B
  |[],_=>by simp
  |x::l,h=>by
    have h1:=h x (by simp)
    have h2:=flat_bd (l:=l) (fun z hz=>h z (by simp [hz]))
    simp only [List.flatMap_cons,List.length_append,List.length_cons,Nat.add_mul,Nat.one_mul]
    omega
theorem nTaps_bd {k:Nat} {l:List Tap} (h:l.length<=6+k/\∀z∈l,tapB z) (hk:k<=10):(nTaps (l.map Tap.v)).length<=1+16*11:=by
  have h1:((l.map Tap.v).flatMap nTap).length<=(l.map Tap.v).length*11:=flat_bd (fun z hz=>by
    obtain ⟨t,ht,rfl⟩:=List.mem_map.1 hz
    rw [nTap_len];have:=(h.2 t ht).2.1;omega)
  rw [List.length_map] at h1
  simp only [nTaps,List.length_cons]
  omega
theorem nStage_bd {k:Nat} {q:Stage} (h:stageB k q) (hk:k<=10):(nStage q.v).length<=700:=by
  obtain ⟨_,hw,hr,hc,hx,hy,ho⟩:=h
  rw [nStage_len,nOps_len]
  have h1:=nTaps_bd hx hk;have h2:=nTaps_bd hy hk
  omega
theorem nJob_bd {k:Nat} {q:Job} (h:jobS k q) (hk:k<=10):(nJob q.v).length<=4000:=by
  rw [nJob_len]
  have h1:(q.inputs.l.flatMap (fun x=>nPlane x.v)).length<=q.inputs.l.length*100:=flat_bd (fun z hz=>by rw [nPlane_len];have:=(h.1.2 z hz).2.1;omega)
  have h2:(q.stages.l.flatMap (fun x=>nStage x.v)).length<=q.stages.l.length*700:=flat_bd (fun z hz=>nStage_bd (h.2.1.2 z hz) hk)
  have h3:=h.1.1;have h4:=h.2.1.1;have h5:=h.2.2.1.1
  omega
def copV:JobV:=⟨[⟨1,1,9,[5]⟩],[⟨6,0,-1,false,0,0,0,0,[],[],[],0,0,[],[],0,[⟨0,0⟩],9⟩],[1],0⟩
theorem wf_cop:wfJob copV:=by
 have h:∀x:Int,-1000<=x/\x<=1000->WfI x:=fun x hx=>by unfold WfI;omega
 have h0:wfL WfI []:=⟨h _ (by decide),fun x hx=>by cases hx⟩
 have h1:wfL wfTap []:=⟨h _ (by decide),fun x hx=>by cases hx⟩
 refine ⟨h _ (by decide),⟨h _ (by decide),fun x hx=>?_⟩,⟨h _ (by decide),fun x hx=>?_⟩,⟨h _ (by decide),fun x hx=>?_⟩⟩
 ·rw [List.mem_singleton.1 hx];exact ⟨h _ (by decide),h _ (by decide),h _ (by decide),h _ (by decide),fun y hy=>by rw [List.mem_singleton.1 hy];exact h _ (by decide)⟩
 ·rw [List.mem_singleton.1 hx];exact ⟨h _ (by decide),h _ (by decide),h _ (by decide),trivial,h _ (by decide),h _ (by decide),h _ (by decide),h _ (by decide),h0,h0,h0,h _ (by decide),h _ (by decide),h1,h1,h _ (by decide),⟨h _ (by decide),fun y hy=>by rw [List.mem_singleton.1 hy];exact ⟨h _ (by decide),h _ (by decide)⟩⟩,h _ (by decide)⟩
 ·rw [List.mem_singleton.1 hx];exact h _ (by decide)
theorem cop1:admD ⟨1,4,4,16,1,10,10,2⟩ ⟨0,0,0⟩ copV 0=0:=by decide+kernel
theorem cop2:admD ⟨1,4,4,15,1,10,10,2⟩ ⟨0,0,0⟩ copV 0=12:=by decide+kernel
theorem cop3:(lowV copV 4 4).length=1:=by decide+kernel
theorem cop4:celV copV 4 4=2:=by decide+kernel
theorem adm_enc {c:Cfg} {l:Lod} {x:List Int} {j:JobV} {ts:List TaskV} {m e:Int} (h:AdmR c l x ts m e) (hp:admP c l) (hj:l.jobs<c.jobs) (hw:wfJob j) (hx:x=[84,70,1]++bytesOf (nJob j)) (hl:x.length<=262144):e=admD c l j 0/\(e=0->ts=lowV j c.tileW c.tileH/\m=celV j c.tileW c.tileH):=by
  rcases h with ⟨_,h⟩|⟨_,_,h⟩|⟨_,_,dj,dc,hd,h1,h2⟩
  · exact absurd hp h
  · omega
  · obtain ⟨rfl,rfl⟩:=DecR.of_enc hd hw hx hl
    exact ⟨h1,h2⟩
theorem l26_config (ar:Int) (hS:Sat W w (H::F)):
  Ro prog 78 #[I ar] (.agg #[I 1,I 4,I 4,I ar,I 1,I 10,I 10,I 2]) W w (H::F):=by
 refine callsA 5 func78 rfl<|sR<|sAlloc hS zeroValue70 fun _ _ b0=>zS<|pu2 ?_
 exact sT b0 0 0 (.agg #[I 1,I 4,I 4,I ar,I 1,I 10,I 10,I 2]) [I 1,I 4,I 4,I ar,I 1,I 10,I 10,I 2] #[I 1,I 4,I 4,I ar,I 1,I 10,I 10,I 2] sizeOf70 fun _ a0=>zE<|retN (vs:=[.agg #[I 1,I 4,I 4,I ar,I 1,I 10,I 10,I 2]]) rfl (.cons (.cell _ _ _ _ kr (lvA a0 0 0 [I 1,I 4,I 4,I ar,I 1,I 10,I 10,I 2] (isAgg70 _) (sizeOf70 _) rfl rfl rfl)) .nil)<|⟨rfl,(a0.dropAt 0 rfl)⟩
theorem l26_copying {F:List Chunk} (hS:Sat W w F):
  Calls prog 79 #[] w fun e w'=>∃(a:Option Addr) (n k:Nat) (c:Chunk),e= .returned (.slice a n k)/\OwnT encB 5 1 a n k ([84,70,1]++bytesOf (nJob copV)) c/\Sat W w' (c::F):=by
 refine callsA 19 func79 rfl<|sR<|pu1<|zS<|sBS hS #[I 5] runUnderlying22 sizeOf3 zeroValue3 fun d0 _ j0=>pu1<|sBS j0 #[I 1,I 1,I 9, .slice (At d0 0) 1 1] runUnderlying25 sizeOf87 zeroValue87 fun a0 _ k0=>pu1<|sBS k0 #[I 0,I 0] runUnderlying36 sizeOf92 zeroValue92 fun e0 _ l0=>pu1<|sBS l0 #[I 6,I 0,I (-1), .bool false,I 0,I 0,I 0,I 0,nS,nS,nS,I 0,I 0,nS,nS,I 0, .slice (At e0 0) 1 1,I 9] runUnderlying26 sizeOf38 zeroValue38 fun b0 _ m0=>sBS m0 #[I 1] runUnderlying22 sizeOf3 zeroValue3 fun c0 _ n0=>pu1<|sAlloc n0 zeroValue28 fun _ _ o0=>?_
 refine sT o0 0 0 (.agg #[.slice (At a0 0) 1 1, .slice (At b0 0) 1 1, .slice (At c0 0) 1 1,I 0]) [.slice (At a0 0) 1 1, .slice (At b0 0) 1 1, .slice (At c0 0) 1 1,I 0] #[.slice (At a0 0) 1 1, .slice (At b0 0) 1 1, .slice (At c0 0) 1 1,I 0] sizeOf28 fun _ h0=>zS<|lA h0 0 0 4 (isAgg28 _) (sizeOf28 _) ?_
 refine sF #[.agg #[.slice (At a0 0) 1 1, .slice (At b0 0) 1 1, .slice (At c0 0) 1 1,I 0]] call41 (Calls.mono (ref_encode W _ _ [] (⟨⟨(At a0 0),1,1,[(⟨1,1,9,⟨(At d0 0),1,1,[5]⟩⟩:Plane)]⟩,⟨(At b0 0),1,1,[(⟨6,0,-1,false,0,0,0,0,⟨none,0,0,[]⟩,⟨none,0,0,[]⟩,⟨none,0,0,[]⟩,0,0,⟨none,0,0,[]⟩,⟨none,0,0,[]⟩,0,⟨(At e0 0),1,1,[(⟨0,0⟩:POp)]⟩,9⟩:Stage)]⟩,⟨(At c0 0),1,1,[1]⟩,0⟩:Job) ⟨(RdT.flat (RdT.blk (enc:=encPlane) (sz:=4) (xs:=[(⟨1,1,9,⟨(At d0 0),1,1,[5]⟩⟩:Plane)]) (fun _=>(by rfl)) 1 4 rfl rfl rfl om)),(fun z hz=>by rw [List.mem_singleton.1 hz];exact ⟨(RdT.flat (RdT.blk (enc:=Go.E.encI) (sz:=1) (xs:=[5]) (fun _=>(by rfl)) 1 5 rfl rfl rfl om))⟩),(RdT.flat (RdT.blk (enc:=encStage) (sz:=18) (xs:=[(⟨6,0,-1,false,0,0,0,0,⟨none,0,0,[]⟩,⟨none,0,0,[]⟩,⟨none,0,0,[]⟩,0,0,⟨none,0,0,[]⟩,⟨none,0,0,[]⟩,0,⟨(At e0 0),1,1,[(⟨0,0⟩:POp)]⟩,9⟩:Stage)]) (fun _=>(by rfl)) 1 2 rfl rfl rfl om)),(fun z hz=>by rw [List.mem_singleton.1 hz];exact ⟨RdT.nil (enc:=Go.E.encI) (sz:=1) fR _,RdT.nil (enc:=Go.E.encI) (sz:=1) fR _,RdT.nil (enc:=Go.E.encI) (sz:=1) fR _,RdT.nil (enc:=encTap) (sz:=2) fR _,(fun z hz=>by cases hz),RdT.nil (enc:=encTap) (sz:=2) fR _,(fun z hz=>by cases hz),(RdT.flat (RdT.blk (enc:=encPOp) (sz:=2) (xs:=[(⟨0,0⟩:POp)]) (fun _=>(by rfl)) 1 3 rfl rfl rfl om))⟩),(RdT.flat (RdT.blk (enc:=Go.E.encI) (sz:=1) (xs:=[1]) (fun _=>(by rfl)) 1 1 rfl rfl rfl om))⟩ (show (nJob copV).length<=1000000000 by decide) h0.flat) ?_)
 rintro _ _ (⟨i0,p0,q0,r0,_,rfl,f0,g0⟩|⟨i0,rfl,g0⟩)
 ·refine ⟨_,rfl,?_⟩
  have s0:=g0.unflat1;clear g0
  have hn_a_25:=f0.len;rw [enc_len] at hn_a_25;have hle_a_25:=f0.le
  exact pu5<|zS<|pu2<|zE<|retT [.slice p0 q0 r0]<|⟨_,_,_,_,rfl,f0,(s0.drops [1,1,1,1,1,1])⟩
 ·exact absurd (show 262144<3+8*(nJob copV).length from i0) (by decide)
theorem l26_sane (hS:Sat W w (H::F)):
  Ro prog 37 #[] (.bool true) W w (H::F):=by
 refine callsA 64 func37 rfl<|sR<|pu1<|zS<|cR call78 (l26_config 16 hS.flat) fun _ j0=>pu1<|cX call79 (l26_copying j0) ?_
 rintro _ _ ⟨_,_,_,_,rfl,a0,k0⟩;have hn_a_4:=a0.len;have hl_a_4:=a0.le
 refine cX call36 (p26_check (F:=[]) (⟨1,4,4,16,1,10,10,2⟩:Cfg) (⟨0,0,0⟩:Lod) (xs:=([84,70,1]++bytesOf (nJob copV))) (RdT.flat (a0.rdAt 0 (by rfl))) (enc_bytes _) (od) k0.flat) ?_
 rintro _ _ ⟨b0,_,l0,_,_,m0,e0_17,_,_,rfl,c0,_,n0,hz0_23,o0⟩
 have p0:=o0.unflat2;have hn_az_12:=c0.len;have hl_az_12:=c0.le
 obtain ⟨ha1,hb1⟩:=adm_enc n0 (by unfold admP;decide) (by decide) wf_cop rfl (by decide);rw [cop1] at ha1
 obtain ⟨hb2,hb3⟩:=hb1 ha1;have hb4:=cop3;rw [<-hb2,List.length_map] at hb4;rw [cop4] at hb3;have hb5:=c0.len
 refine pu5<|sAlloc p0 zeroValue28 fun _ _ q0=>?_
 refine sT q0 0 0 (.agg (encJob b0).toArray) (encJob b0) (encJob b0).toArray sizeOf28 fun _ r0=>pu3<|zS<|cR call78 (l26_config 15 r0.flat) fun _ s0=>pu1<|cX call79 (l26_copying s0) ?_
 rintro _ _ ⟨_,_,_,_,rfl,d0,t0⟩;have hn_a_36:=d0.len;have hl_a_36:=d0.le
 refine cX call36 (p26_check (F:=[]) (⟨1,4,4,15,1,10,10,2⟩:Cfg) (⟨0,0,0⟩:Lod) (xs:=([84,70,1]++bytesOf (nJob copV))) (RdT.flat (d0.rdAt 0 (by rfl))) (enc_bytes _) (od) t0.flat) ?_
 rintro _ _ ⟨e0,_,_,_,_,_,e0_49,_,_,rfl,h0,_,u0,hz0_55,v0⟩
 have w0:=v0.unflat2;have hn_az_44:=h0.len;have hl_az_44:=h0.le
 obtain ⟨ha2,hb2⟩:=adm_enc u0 (by unfold admP;decide) (by decide) wf_cop rfl (by decide);rw [cop2] at ha2
 refine pu5<|sAlloc w0 zeroValue28 fun _ _ x0=>?_
 refine sT x0 0 0 (.agg (encJob e0).toArray) (encJob e0) (encJob e0).toArray sizeOf28 fun _ y0=>pu3<|zS<|cR call78 (l26_config 16 y0.flat) fun _ z0=>pu1<|cX call79 (l26_copying z0) ?_
 rintro _ _ ⟨_,_,_,_,rfl,f0,a1⟩;have hn_a_68:=f0.len;have hl_a_68:=f0.le
 refine cX call36 (p26_check (F:=[]) (⟨1,4,4,16,1,10,10,2⟩:Cfg) (⟨2,0,0⟩:Lod) (xs:=([84,70,1]++bytesOf (nJob copV))) (RdT.flat (f0.rdAt 0 (by rfl))) (enc_bytes _) (od) a1.flat) ?_
 rintro _ _ ⟨g0,_,_,_,_,_,e0_81,_,_,rfl,i0,_,b1,hz0_87,c1⟩
 have d1:=c1.unflat2;have hn_az_76:=i0.len;have hl_az_76:=i0.le
 have ha3:e0_81=15:=AdmR.full b1 (by unfold admP;decide) (by decide)
 refine pu5<|sAlloc d1 zeroValue28 fun _ _ e1=>?_
 refine sT e1 0 0 (.agg (encJob g0).toArray) (encJob g0) (encJob g0).toArray sizeOf28 fun _ f1=>pu3<|zS<|pu3 ?_
 have g1:(e0_17:Int)=0:=by omega
 refine sFix 42 _ true (beq_iff_eq.2 g1)<|pu5 ?_
 have h1:((l0:Int):Int)=1:=by omega
 refine sFix 47 _ true (beq_iff_eq.2 h1)<|pu4 ?_
 have i1:(m0:Int)=2:=by omega
 refine sFix 51 _ true (beq_iff_eq.2 i1)<|pu4 ?_
 have j1:(e0_49:Int)=12:=by omega
 refine sFix 55 _ true (beq_iff_eq.2 j1)<|pu4 ?_
 have k1:(e0_81:Int)=15:=by omega
 exact sFix 59 _ true (beq_iff_eq.2 k1)<|gY<|cR call78 (l26_config 0 f1.flat) fun _ l1=>gY<|cR call80 (p26_valid (⟨1,4,4,0,1,10,10,2⟩:Cfg) l1.flat) fun _ m1=>pu3<|zE<|retT [.bool (((cfgV (⟨1,4,4,0,1,10,10,2⟩:Cfg)):Int)==0)]<|⟨rB (by first|(simp [cfgV];done)|decide|(simp_all;done)),(m1.drops [0,0,0,0,0,0,0,0,0,0,0,0])⟩
end Go.Proofs.YtdingplbadblpaaGreat
