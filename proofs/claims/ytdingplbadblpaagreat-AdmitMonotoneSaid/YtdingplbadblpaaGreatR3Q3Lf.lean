import Derived.WalkKit
import Derived.Deep.Quiet
import Derived.KernelRfl
import Derived.Laws.BytesString
import Derived.Laws.Shifts
import Derived.Laws.IdiomStrings
import Derived.OpenShut
import Derived.Test.YtdingplbadblpaaGreatProg
import Derived.Shelf.SortG.Plain
import Derived.Shelf.SortG.SortNone
import Derived.Shelf.SlicesG.CompactI
import Derived.Test.YtdingplbadblpaaGreatR3Q3Le
namespace Go.Proofs.YtdingplbadblpaaGreat
open Go Go.E Go.Proofs.Tryz
set_option linter.all false
set_option maxRecDepth 100000
set_option maxHeartbeats 2000000
variable {W w:World} {H:Chunk} {F:List Chunk}
theorem take_split {l:List Int} {i:Nat} {x:Int} (h:l[i]?=some x):l=l.take i++x::l.drop (i+1):=by
  obtain ⟨hl,e⟩:=List.getElem?_eq_some_iff.1 h
  conv=>lhs;rw [<-List.take_append_drop i l,List.drop_eq_getElem_cons hl,e]
theorem layw_step {L:Lay} (g:LayG L) {i:Nat} {nd tot c:Int} {fl cl:List Int} (h:L.od[i]?=some nd) (hF:∀n∈L.od.take i,fl[n.toNat]?=some (L.first n)/\cl[n.toNat]?=some (L.cnt n)) (ht:tot=((L.od.take i).map L.cnt).sum) (hc:c=L.cnt nd)
  (h1:nd.toNat<fl.length) (h2:nd.toNat<cl.length):∀n∈L.od.take (i+1),(fl.set nd.toNat tot)[n.toNat]?=some (L.first n)/\(cl.set nd.toNat c)[n.toNat]?=some (L.cnt n):=by
 intro n hn
 have hfa:=g.first_at (take_split h)
 rw [List.take_add_one,h,Option.toList_some] at hn
 rcases List.mem_append.1 hn with hn|hn
 ·have hne:n≠nd:=fun e=>hfa.2 (e▸hn)
  have r1:=g.rng n (List.mem_of_mem_take hn);have r2:=g.rng nd (List.mem_of_getElem? h);have r3:=g.ni
  rw [List.getElem?_set,if_neg om,List.getElem?_set,if_neg om]
  exact hF n hn
 ·simp only [List.mem_singleton] at hn
  subst hn
  rw [List.getElem?_set,if_pos rfl,if_pos h1,List.getElem?_set,if_pos rfl,if_pos h2,hfa.1,ht,hc]
  exact ⟨rfl,rfl⟩
theorem sum_take {f:Int->Int} {l:List Int} {i:Nat} {x:Int} (h:l[i]?=some x):((l.take (i+1)).map f).sum=((l.take i).map f).sum+f x:=by
  rw [List.take_add_one,h,Option.toList_some,List.map_append,List.sum_append];simp
theorem tasks_len {L:Lay} (g:LayG L) {x:Int} (hx:x∈L.od):((L.tasks x).length:Int)=L.cnt x:=by
  have h:=(g.grid hx).2.2
  unfold Lay.tasks Lay.cnt
  rw [List.length_append,List.length_map,upto_len]
  split<;>simp<;>omega
theorem tasks_sum {L:Lay} (g:LayG L):∀l:List Int,(∀x∈l,x∈L.od)->((l.flatMap L.tasks).length:Int)=(l.map L.cnt).sum
  |[],_=>rfl
  |x::l,h=>by
    rw [List.flatMap_cons,List.length_append,List.map_cons,List.sum_cons,<-tasks_sum g l (fun y hy=>h y (by simp [hy])),<-tasks_len g (h x (by simp))]
    push_cast;rfl
theorem take_sum_le {L:Lay} (g:LayG L) (i:Nat):0<=((L.od.take i).map L.cnt).sum/\((L.od.take i).map L.cnt).sum<=L.total:=by
  have h1:=sum_nn (f:=L.cnt) (L.od.take i) (fun y hy=>by have:=g.cntb (List.mem_of_mem_take hy);omega)
  have h2:=sum_nn (f:=L.cnt) (L.od.drop i) (fun y hy=>by have:=g.cntb (List.mem_of_mem_drop hy);omega)
  have h3:L.total=((L.od.take i).map L.cnt).sum+((L.od.drop i).map L.cnt).sum:=by
    unfold Lay.total
    rw [<-List.sum_append,<-List.map_append,List.take_append_drop]
  omega
theorem sh_bd {L:Lay} (g:LayG L) {i:Nat} {m:Shape} (h:L.sh[i]?=some m):szP m:=by
  have hl:=(List.getElem?_eq_some_iff.1 h).1
  have:=g.sz (i:Int) (by omega) (by have:=g.len;omega)
  unfold shpAt at this
  rw [show ((i:Int)).toNat=i by omega,h] at this
  exact this
theorem cellsum_le {L:Lay} (g:LayG L):∀i:Nat,i<=L.sh.length->0<=((L.sh.take i).map fun m=>m.w*m.h).sum/\((L.sh.take i).map fun m=>m.w*m.h).sum<=4096*i
  |0,_=>by simp
  |i+1,hi=>by
    have ih:=cellsum_le g i (by omega)
    have hx:L.sh[i]?=some L.sh[i]:=List.getElem?_eq_getElem (by omega)
    have hz:=sh_bd g hx
    unfold szP at hz
    have hm:0<=L.sh[i].w*L.sh[i].h:=Int.mul_nonneg (by omega) (by omega)
    rw [List.take_add_one,hx,Option.toList_some,List.map_append,List.sum_append]
    simp only [List.map_cons,List.map_nil,List.sum_cons,List.sum_nil]
    push_cast
    omega
def histC (L:Lay) (n:Int):Int:=if (L.st n).kind=4 then (L.st n).bins*(L.cnt n-1) else 0
theorem hist_bd {L:Lay} (g:LayG L) {n:Int} (hn:n∈L.od):0<=histC L n/\histC L n<=2097152:=by
  unfold histC
  split
  · rename_i hk
    have hb:=g.byt hn
    unfold bytOK at hb
    have hc:=g.cntb hn
    have:=mul_bd (a:=(L.st n).bins) (b:=L.cnt n-1) (A:=128) (B:=16384) (by omega) (by omega)
    omega
  · omega
theorem histsum_le {L:Lay} (g:LayG L):∀i:Nat,i<=L.od.length->0<=((L.od.take i).map (histC L)).sum/\((L.od.take i).map (histC L)).sum<=2097152*i
  |0,_=>by simp
  |i+1,hi=>by
    have ih:=histsum_le g i (by omega)
    have hx:L.od[i]?=some L.od[i]:=List.getElem?_eq_getElem (by omega)
    have hz:=hist_bd g (List.mem_of_getElem? hx)
    rw [sum_take hx]
    push_cast
    omega
theorem p20_plan (p:Job) (tw:Int) (th:Int) (hp:Job.Ok [H] p) (hb:p.inputs.n<=1000000/\p.stages.n<=1000000/\p.outputs.n<=1000000) (hS:Sat W w (H::F)):
  Calls prog 46 #[.agg (encJob p).toArray,I tw,I th] w fun e w'=>(¬lowC p.v tw th=0/\e= .returned (.tuple #[.pointer none,I (lowC p.v tw th)])/\Sat W w' (H::F))\/(lowC p.v tw th=0/\∃(b:Nat) (x:LayM) (G:Chunk),e= .returned (.tuple #[Pt b 0,I 0])/\LayM.Ok [G++H] x/\x.L=layV p.v tw th/\LayG x.L/\x.jobStages.n=x.jobStages.l.length/\LayW x/\x.L.total<=4096/\Sat W w' ([(b, .cells (encLayM x).toArray 97 (0,0))]::(G++H)::F)):=by
 have hl_p_inputs:=hp.inputs.le;have hn_p_inputs:=hp.inputs.len
 have hl_p_stages:=hp.stages.le;have hn_p_stages:=hp.stages.len
 have hl_p_outputs:=hp.outputs.le;have hn_p_outputs:=hp.outputs.len
 have hpi:p.v.inputs.length=p.inputs.n:=by simp [Job.v,hn_p_inputs]
 have hps:p.v.stages.length=p.stages.n:=by simp [Job.v,hn_p_stages]
 refine callsA 120 func46 rfl<|sR<|sBox hS (.agg (encJob p).toArray) (encJob p).toArray fun a1 _ z0=>pu2<|zS<|lA z0 0 0 4 (isAgg28 _) (sizeOf28 _)<|cX call82 (p17_shapes p ⟨(RdT.flat (hp.inputs.up 1 (by rfl))),(fun z hz=>(hp.inputsD z hz).of_mem (mem_flat1 1 (by rfl))),(RdT.flat (hp.stages.up 1 (by rfl))),(fun z hz=>(hp.stagesD z hz).of_mem (mem_flat1 1 (by rfl))),(RdT.flat (hp.outputs.up 1 (by rfl)))⟩ (od) z0.flat) ?_
 rintro _ _ ⟨i0,a0,j0,q0,rfl,r0,b1⟩
 have v0:=b1.unflat1
 have hn_az_7:=r0.len;have hl_az_7:=r0.le
 refine pu7<|zQ<|pu2<|nT<|cN ((shpV p.v).2.2) 0 (fun l0=>?_) (fun l0=>?_)
 rotate_left
 ·refine sR<|pu3<|zR<|retT [.pointer none,I ((shpV p.v).2.2)] ?_
  have c1:=(v0.drops [0,0])
  have hk:lowC p.v tw th=(shpV p.v).2.2:=by unfold lowC;rw [if_neg l0]
  exact .inl ⟨by rw [hk];omega,by rw [hk];rfl,c1⟩
 refine kS<|lA v0 1 0 4 (isAgg28 _) (sizeOf28 _)<|cX call86 (p17_order p ⟨(RdT.flat (hp.inputs.up 2 (by rfl))),(fun z hz=>(hp.inputsD z hz).of_mem (mem_flat1 2 (by rfl))),(RdT.flat (hp.stages.up 2 (by rfl))),(fun z hz=>(hp.stagesD z hz).of_mem (mem_flat1 2 (by rfl))),(RdT.flat (hp.outputs.up 2 (by rfl)))⟩ (od) v0.flat) ?_
 rintro _ _ ⟨g0,f0,h0,s0,rfl,n0,d1⟩
 have o0:=d1.unflat1
 have hn_az_16:=n0.len;have hl_az_16:=n0.le
 refine pu5<|nilO ?_
 have hso:=shp_ok (j:=p.v) l0;have hod:=hso.od
 have hsl:(shpV p.v).1.length=p.inputs.n+p.stages.n:=by have h:=hso.len;omega
 have hol:(ordV p.v).1.length=p.stages.n:=by have h:=hso.ln;omega
 have hnn:=hso.nn
 refine tN<|seqE<|sR<|pu2<|nT<|cN ((ordV p.v).2) 0 (fun e1=>?_) (fun e1=>?_)
 rotate_left
 ·exact sR<|pu3<|zR<|retT [.pointer none,I ((ordV p.v).2)]<|absurd hod om
 refine kT<|seqE<|sR<|pu3<|sD 39 (tw<1) (fun f1=>?_) (fun f1=>?_)
 ·refine pu11<|zC<|pu2<|zR<|retT [.pointer none,I 2] ?_
  have g1:=(o0.drops [0,0,0])
  have hk:lowC p.v tw th=2:=by unfold lowC;rw [if_pos l0,if_neg (by unfold tileP;omega)]
  exact .inl ⟨by rw [hk];omega,by rw [hk];rfl,g1⟩
 refine pu4<|sD 43 (tw>64) (fun h1=>?_) (fun h1=>?_)
 ·refine pu7<|zC<|pu2<|zR<|retT [.pointer none,I 2] ?_
  have i1:=(o0.drops [0,0,0])
  have hk:lowC p.v tw th=2:=by unfold lowC;rw [if_pos l0,if_neg (by unfold tileP;omega)]
  exact .inl ⟨by rw [hk];omega,by rw [hk];rfl,i1⟩
 refine pu4<|sD 47 (th<1) (fun j1=>?_) (fun j1=>?_)
 ·refine pu3<|zC<|pu2<|zR<|retT [.pointer none,I 2] ?_
  have k1:=(o0.drops [0,0,0])
  have hk:lowC p.v tw th=2:=by unfold lowC;rw [if_pos l0,if_neg (by unfold tileP;omega)]
  exact .inl ⟨by rw [hk];omega,by rw [hk];rfl,k1⟩
 refine pu3<|nT<|cD (th>64) (fun l1=>?_) (fun l1=>?_)
 ·refine sR<|pu2<|zR<|retT [.pointer none,I 2] ?_
  have m1:=(o0.drops [0,0,0])
  have hk:lowC p.v tw th=2:=by unfold lowC;rw [if_pos l0,if_neg (by unfold tileP;omega)]
  exact .inl ⟨by rw [hk];omega,by rw [hk];rfl,m1⟩
 refine kT<|seqE ?_
 have htp:tileP tw th:=by unfold tileP;omega
 obtain ⟨L,hL⟩:∃z:Lay,z=(⟨(p.inputs.n:Int),p.stages.l.map Stage.v,(shpV p.v).1,(ordV p.v).1,tw,th⟩:Lay):=⟨_,rfl⟩
 have hlv:L=layV p.v tw th:=by rw [hL];unfold layV;rw [hpi];rfl
 have hg:LayG L:=by rw [hlv];exact lay_ok hso htp
 have hLd:L.od=(ordV p.v).1:=by rw [hL]
 have hLs:L.sh=(shpV p.v).1:=by rw [hL]
 have hg2:LayG (⟨(p.inputs.n:Int),p.stages.l.map Stage.v,(shpV p.v).1,(ordV p.v).1,tw,th⟩:Lay):=by rw [<-hL];exact hg
 have hLt:L.tw=tw/\L.th=th:=by rw [hL];exact ⟨rfl,rfl⟩
 have hgn:=hg.ni;have hgl:(L.ss.length:Int)=p.stages.n:=by rw [hL];simp [hn_p_stages]
 have hgi:L.ni=(p.inputs.n:Int):=by rw [hL]
 refine rE<|lA o0 2 0 4 (isAgg28 _) (sizeOf28 _)<|pu5<|sBox o0 (.agg #[.slice p.inputs.a p.inputs.n p.inputs.k, .slice p.stages.a p.stages.n p.stages.k, .slice p.outputs.a p.outputs.n p.outputs.k,I p.priority,I tw,I th, .slice g0 f0 h0, .slice i0 a0 j0,nS,nS]) #[.slice p.inputs.a p.inputs.n p.inputs.k, .slice p.stages.a p.stages.n p.stages.k, .slice p.outputs.a p.outputs.n p.outputs.k,I p.priority,I tw,I th, .slice g0 f0 h0, .slice i0 a0 j0,nS,nS] fun k0 _ n1=>pu1<|zS<|pu3<|sMake (kl:= .i64) (kc:= .i64) (enc:=Go.E.encI) (sz:=1) (nb:=8) n1 0 a0 (a0:Int) (rfl:(a0:Int)=(a0:Int)) underlying22 (i:=Tryz.t3) kr fR fun d0 o1 _ q1 r1=>pu2 ?_
 refine tW r1 1 8 (.slice (At d0 0) a0 a0) sizeOf22 fun _ s1=>zS<|pu3<|sMake (kl:= .i64) (kc:= .i64) (enc:=Go.E.encI) (sz:=1) (nb:=8) s1 0 a0 (a0:Int) (rfl:(a0:Int)=(a0:Int)) underlying22 (i:=Tryz.t3) kr fR fun e0 t1 _ u1 v1=>pu2<|tW v1 2 9 (.slice (At e0 0) a0 a0) sizeOf22 fun _ w1=>zS<|pu1<|zQ<|pu3<|nT<|blockE ?_
 have x1:=(w1.picks [0,1])
 refine loopA (γ:=Nat×Int×(List Int)×Chunk×(List Int)×Chunk) (fun ⟨i,tot,fl,cf,cl,cc⟩=>[(1,I tw),(2,I th),(12,Pt k0 0),(70, .slice g0 f0 h0),(71,I (f0:Int)),(13,I tot),(72,I (i:Int))]) (fun ⟨i,tot,fl,cf,cl,cc⟩ w=>Sat W w (cf::cc::[(k0, .cells #[.slice p.inputs.a p.inputs.n p.inputs.k, .slice p.stages.a p.stages.n p.stages.k, .slice p.outputs.a p.outputs.n p.outputs.k,I p.priority,I tw,I th, .slice g0 f0 h0, .slice i0 a0 j0, .slice (At d0 0) a0 a0, .slice (At e0 0) a0 a0] 97 (0,0))]::s0::q0::[(a1, .cells (encJob p).toArray 28 (0,0))]::H::F)/\i<=p.stages.n/\OwnT Go.E.encI 3 1 (At d0 0) a0 a0 fl cf/\OwnT Go.E.encI 3 1 (At e0 0) a0 a0 cl cc/\(∀n∈L.od.take i,fl[n.toNat]?=some (L.first n)/\cl[n.toNat]?=some (L.cnt n))/\tot=((L.od.take i).map L.cnt).sum) (fun ⟨i,tot,fl,cf,cl,cc⟩=>(p.stages.n-i)) (0,0,(List.replicate a0 0),o1,(List.replicate a0 0),t1) ⟨x1,om,q1,u1,(by intro n hn;simp at hn),(by simp)⟩ ?_
 rintro ⟨i,tot,fl,cf,cl,cc⟩ ρ _ ⟨t0,hi,hOf,hOc,hF,hT⟩
 have hlf:=hOf.len;have hlc:=hOc.len;have hlfe:=hOf.le;have hlce:=hOc.le;have hts:=take_sum_le hg i;have htb:=hg.totb
 refine sR<|pu1<|nT<|seqE<|cD ((i:Int)<(f0:Int)) (fun y1=>?_) (fun y1=>?_)
 rotate_left
 ·refine exitE<|xB<|tN<|seqE<|sR<|pu2<|nT<|cD (tot>4096) (fun z1=>?_) (fun z1=>?_)
  ·refine sR<|pu2<|zR<|retT [.pointer none,I 13] ?_
   have a2:=(t0.drops [0,0,0,0,0,0])
   have hk:lowC p.v tw th=13:=by unfold lowC;rw [if_pos l0,if_pos htp,if_neg (by rw [<-hlv];unfold Lay.total;rw [<-List.take_of_length_le (l:=L.od) (i:=i) (by rw [hLd];omega),<-hT];omega)]
   exact .inl ⟨by rw [hk];omega,by rw [hk];rfl,a2⟩
  refine kS<|pu3<|zE<|retT [Pt k0 0,I 0] ?_
  have htt:L.total<=4096:=by unfold Lay.total;rw [<-List.take_of_length_le (l:=L.od) (i:=i) (by rw [hLd];omega),<-hT];omega
  have hk:lowC p.v tw th=0:=by unfold lowC;rw [if_pos l0,if_pos htp,if_pos (by rw [<-hlv];exact htt)]
  have b2:=((t0.picks [4,4,4]).dropAt 5 rfl)
  have c2:Sat W _ ([(k0, .cells #[.slice p.inputs.a p.inputs.n p.inputs.k, .slice p.stages.a p.stages.n p.stages.k, .slice p.outputs.a p.outputs.n p.outputs.k,I p.priority,I tw,I th, .slice g0 f0 h0, .slice i0 a0 j0, .slice (At d0 0) a0 a0, .slice (At e0 0) a0 a0] 97 (0,0))]::((s0++q0++cf++cc)++H)::F):=Sat.perm (show Sat W _ ([(k0, .cells #[.slice p.inputs.a p.inputs.n p.inputs.k, .slice p.stages.a p.stages.n p.stages.k, .slice p.outputs.a p.outputs.n p.outputs.k,I p.priority,I tw,I th, .slice g0 f0 h0, .slice i0 a0 j0, .slice (At d0 0) a0 a0, .slice (At e0 0) a0 a0] 97 (0,0))]::s0::q0::cf::cc::H::F) from b2) (by simp)
  have hok:LayM.Ok [(s0++q0++cf++cc)++H] (⟨p.inputs,p.stages,p.outputs,p.priority,tw,th,⟨g0,f0,h0,((ordV p.v).1)⟩,⟨i0,a0,j0,((shpV p.v).1)⟩,⟨(At d0 0),a0,a0,fl⟩,⟨(At e0 0),a0,a0,cl⟩⟩:LayM):=⟨(hp.inputs.of_mem mS),(fun z hz=>(hp.inputsD z hz).of_mem mS),(hp.stages.of_mem mS),(fun z hz=>(hp.stagesD z hz).of_mem mS),(hp.outputs.of_mem mS),(n0.rd (fun p hp=>by simp [hp])),(r0.rd (fun p hp=>by simp [hp])),(hOf.rd (fun p hp=>by simp [hp])),(hOc.rd (fun p hp=>by simp [hp]))⟩
  refine .inr ⟨hk,k0,(⟨p.inputs,p.stages,p.outputs,p.priority,tw,th,⟨g0,f0,h0,((ordV p.v).1)⟩,⟨i0,a0,j0,((shpV p.v).1)⟩,⟨(At d0 0),a0,a0,fl⟩,⟨(At e0 0),a0,a0,cl⟩⟩:LayM),(s0++q0++cf++cc),rfl,hok,?_,hg2,hn_p_stages.symm,?_,?_,c2⟩
  ·rw [<-hlv,hL];rfl
  ·exact fun n hn=>by have h:=hF n (by rw [List.take_of_length_le (by rw [hLd];omega),hLd];exact hn);rw [hL] at h;exact h
  ·rw [hL] at htt;exact htt
 refine kT<|seqE<|blockE<|sR<|sIdxO n0 (i:Int) i runUnderlying22 sizeOf3 fun c0 _ _ w0 d2 _=>?_
 have hnd:c0∈L.od:=by rw [hLd];exact List.mem_of_getElem? w0
 have hrn:=hg.rng c0 hnd;have hcb:=hg.cntb hnd;have hfi:=hg.fine hnd;have hgr:=hg.grid hnd;have hcs:=hg.cutsz hnd;unfold szP at hcs
 refine sLp t0 (d2.up 3 rfl) 0 (I c0) (isAgg3 _)<|pu1<|zS<|pu2 ?_
 have e2:=(t0.pick 2 rfl)
 refine cX call87 (p20_cut (x:=(⟨p.inputs,p.stages,p.outputs,p.priority,tw,th,⟨g0,f0,h0,((ordV p.v).1)⟩,⟨i0,a0,j0,((shpV p.v).1)⟩,⟨(At d0 0),a0,a0,fl⟩,⟨(At e0 0),a0,a0,cl⟩⟩:LayM)) ⟨(RdT.flat (hp.inputs.up 5 (by rfl))),(fun z hz=>(hp.inputsD z hz).of_mem (mem_flat1 5 (by rfl))),(RdT.flat (hp.stages.up 5 (by rfl))),(fun z hz=>(hp.stagesD z hz).of_mem (mem_flat1 5 (by rfl))),(RdT.flat (hp.outputs.up 5 (by rfl))),(RdT.flat (n0.rdAt 2 (by rfl))),(RdT.flat (r0.rdAt 3 (by rfl))),(RdT.flat (hOf.rdAt 0 (by rfl))),(RdT.flat (hOc.rdAt 1 (by rfl)))⟩ c0 hg2 hn_p_stages.symm (show c0∈(ordV p.v).1 from hLd▸hnd) e2.flat1) ?_
 rintro _ _ ⟨rfl,f2⟩
 have g2:=f2.unflat1
 obtain ⟨b0,hm_m_61⟩:∃z:Shape,z=L.cut c0:=⟨_,rfl⟩
 rw [show (LayM.L (⟨p.inputs,p.stages,p.outputs,p.priority,tw,th,⟨g0,f0,h0,((ordV p.v).1)⟩,⟨i0,a0,j0,((shpV p.v).1)⟩,⟨(At d0 0),a0,a0,fl⟩,⟨(At e0 0),a0,a0,cl⟩⟩:LayM)).cut c0=b0 from by rw [hm_m_61,hL];rfl]
 rw [<-hm_m_61] at hcs;rw [<-hm_m_61,hLt.1,hLt.2] at hfi
 refine sAlloc g2 zeroValue54 fun _ _ h2=>?_
 refine sT h2 0 0 (.agg #[I b0.w,I b0.h,I b0.max_]) [I b0.w,I b0.h,I b0.max_] #[I b0.w,I b0.h,I b0.max_] sizeOf54 fun _ x0=>zS<|pu1<|sL x0 0 0 (I b0.w) (isAgg3 _)<|pu1<|sL x0 0 1 (I b0.h) (isAgg3 _)<|pu2<|cR call88 (p5_count b0.w b0.h tw th x0.flat) fun _ i2=>pu5<|nilO ?_
 have hxn:L.nx c0=(colsN b0.w b0.h tw th)/\L.ny c0=(rowsN b0.w b0.h tw th):=by unfold Lay.nx Lay.ny;rw [<-hm_m_61,hLt.1,hLt.2];exact ⟨rfl,rfl⟩
 rw [hxn.1,hxn.2] at hgr
 refine tN<|sR<|pu2<|sMul (colsN b0.w b0.h tw th) (rowsN b0.w b0.h tw th)<|pu1<|zQ<|pu2 ?_
 have j2:=(i2.pick 1 rfl)
 refine cX call60 (p20_stage (x:=(⟨p.inputs,p.stages,p.outputs,p.priority,tw,th,⟨g0,f0,h0,((ordV p.v).1)⟩,⟨i0,a0,j0,((shpV p.v).1)⟩,⟨(At d0 0),a0,a0,fl⟩,⟨(At e0 0),a0,a0,cl⟩⟩:LayM)) ⟨(RdT.flat (hp.inputs.up 6 (by rfl))),(fun z hz=>(hp.inputsD z hz).of_mem (mem_flat1 6 (by rfl))),(RdT.flat (hp.stages.up 6 (by rfl))),(fun z hz=>(hp.stagesD z hz).of_mem (mem_flat1 6 (by rfl))),(RdT.flat (hp.outputs.up 6 (by rfl))),(RdT.flat (n0.rdAt 3 (by rfl))),(RdT.flat (r0.rdAt 4 (by rfl))),(RdT.flat (hOf.rdAt 1 (by rfl))),(RdT.flat (hOc.rdAt 2 (by rfl)))⟩ c0 (show (p.inputs.n:Int)<=c0/\c0<(p.inputs.n:Int)+(p.stages.n:Int) by omega) (show p.inputs.n<=1000/\p.stages.n<=1000 by omega) j2.flat1) ?_
 rintro _ _ ⟨m0,rfl,u0,k2⟩
 have p0:=k2.unflat1;replace u0:p.stages.l[(c0-(p.inputs.n:Int)).toNat]?=some m0:=u0
 have hok_q_74:=hp.stagesD m0 (List.mem_of_getElem? u0);have hst_q_74:(⟨(p.inputs.n:Int),p.stages.l.map Stage.v,(shpV p.v).1,(ordV p.v).1,tw,th⟩:Lay).st c0=m0.v:=stg_at (map_at (f:=Stage.v) u0)
 refine pu2<|nT<|cE m0.kind 4 (fun y0=>?_) (fun y0=>?_)
 rotate_left
 ·refine kT<|seqE ?_
  have hcn:((colsN b0.w b0.h tw th)*(rowsN b0.w b0.h tw th))=L.cnt c0:=by unfold Lay.cnt;rw [show L.st c0=m0.v from by rw [hL];exact hst_q_74,if_neg (show ¬m0.v.kind=4 from y0),hxn.1,hxn.2]
  obtain ⟨l2,m2,n2,o2,t4,q2,r2⟩:=OwnT.elem hOf c0
  obtain ⟨s2,t2,u2,v2,u4,w2,x2⟩:=OwnT.elem hOc c0
  refine drawE [13,15] [(3,⟨k0,8,none⟩, .slice (At d0 0) a0 a0),(8,⟨k0,9,none⟩, .slice (At e0 0) a0 a0)] [(true,[0,1,2,4,5,6,7,9,10,11]),(true,[3]),(true,[8]),(true,[12]),(false,[13]),(true,[14]),(false,[15])] rfl kr ⟨cI p0 0,cI p0 0,trivial⟩ ?_
  have y2:=p0.drew
  refine wU [0,1,2,4,5,6,7,9,10,11]<|wLd (.slice (At d0 0) a0 a0) 0 isAgg22<|wLd (.slice (At e0 0) a0 a0) 1 isAgg22<|wY (.pointer (some ⟨m2,n2+(c0).toNat*1,none⟩)) rfl (fun w _=>Y_idx (a:=(At d0 0)) (i:=c0) (len:=a0) (cap:=a0) rfl runUnderlying22 sizeOf3 kr kr q2)<|wO rfl<|sStF y2 hOf r2 2 (c0).toNat 0 l2 tot o2 (I tot) [I tot] sizeOf3 fun _ z2 a3 b3=>nilO ⟨dA,?_⟩
  refine wY (.pointer (some ⟨t2,u2+(c0).toNat*1,none⟩)) rfl (fun w _=>Y_idx (a:=(At e0 0)) (i:=c0) (len:=a0) (cap:=a0) rfl runUnderlying22 sizeOf3 kr kr w2)<|wO rfl<|sStF b3 hOc x2 3 (c0).toNat 0 s2 ((colsN b0.w b0.h tw th)*(rowsN b0.w b0.h tw th)) v2 (I ((colsN b0.w b0.h tw th)*(rowsN b0.w b0.h tw th))) [I ((colsN b0.w b0.h tw th)*(rowsN b0.w b0.h tw th))] sizeOf3 fun _ c3 d3 e3=>nilO ⟨dA,?_⟩
  refine wN<|tN<|rE<|pu2<|sAdd tot ((colsN b0.w b0.h tw th)*(rowsN b0.w b0.h tw th))<|pu1<|nB<|rE<|sAdd (i:Int) 1<|pu1<|nT ?_
  have f3:=((e3.picks [3,3]).dropAt 3 rfl)
  have hLi:L.od[i]?=some c0:=by rw [hLd];exact w0
  exact ⟨(i+1,(tot+((colsN b0.w b0.h tw th)*(rowsN b0.w b0.h tw th))),(fl.set ((c0).toNat) tot),z2,(cl.set ((c0).toNat) ((colsN b0.w b0.h tw th)*(rowsN b0.w b0.h tw th))),c3),od,alA,f3,om,a3,d3,(layw_step hg hLi hF hT hcn om om),(by rw [sum_take hLi,<-hT,<-hcn])⟩
 refine rE<|pu1<|sAdd ((colsN b0.w b0.h tw th)*(rowsN b0.w b0.h tw th)) 1<|pu1<|nT<|seqE ?_
 have hcn:(((colsN b0.w b0.h tw th)*(rowsN b0.w b0.h tw th))+1)=L.cnt c0:=by unfold Lay.cnt;rw [show L.st c0=m0.v from by rw [hL];exact hst_q_74,if_pos (show m0.v.kind=4 from y0),hxn.1,hxn.2]
 obtain ⟨g3,h3,i3,j3,x4,k3,l3⟩:=OwnT.elem hOf c0
 obtain ⟨m3,n3,o3,p3,y4,q3,r3⟩:=OwnT.elem hOc c0
 refine drawE [13,15] [(3,⟨k0,8,none⟩, .slice (At d0 0) a0 a0),(8,⟨k0,9,none⟩, .slice (At e0 0) a0 a0)] [(true,[0,1,2,4,5,6,7,9,10,11]),(true,[3]),(true,[8]),(true,[12]),(false,[13]),(true,[14]),(false,[15])] rfl kr ⟨cI p0 0,cI p0 0,trivial⟩ ?_
 have s3:=p0.drew
 refine wU [0,1,2,4,5,6,7,9,10,11]<|wLd (.slice (At d0 0) a0 a0) 0 isAgg22<|wLd (.slice (At e0 0) a0 a0) 1 isAgg22<|wY (.pointer (some ⟨h3,i3+(c0).toNat*1,none⟩)) rfl (fun w _=>Y_idx (a:=(At d0 0)) (i:=c0) (len:=a0) (cap:=a0) rfl runUnderlying22 sizeOf3 kr kr k3)<|wO rfl<|sStF s3 hOf l3 2 (c0).toNat 0 g3 tot j3 (I tot) [I tot] sizeOf3 fun _ u3 v3 w3=>nilO ⟨dA,?_⟩
 refine wY (.pointer (some ⟨n3,o3+(c0).toNat*1,none⟩)) rfl (fun w _=>Y_idx (a:=(At e0 0)) (i:=c0) (len:=a0) (cap:=a0) rfl runUnderlying22 sizeOf3 kr kr q3)<|wO rfl<|sStF w3 hOc r3 3 (c0).toNat 0 m3 (((colsN b0.w b0.h tw th)*(rowsN b0.w b0.h tw th))+1) p3 (I (((colsN b0.w b0.h tw th)*(rowsN b0.w b0.h tw th))+1)) [I (((colsN b0.w b0.h tw th)*(rowsN b0.w b0.h tw th))+1)] sizeOf3 fun _ x3 y3 z3=>nilO ⟨dA,?_⟩
 refine wN<|tN<|rE<|pu2<|sAdd tot (((colsN b0.w b0.h tw th)*(rowsN b0.w b0.h tw th))+1)<|pu1<|nB<|rE<|sAdd (i:Int) 1<|pu1<|nT ?_
 have a4:=((z3.picks [3,3]).dropAt 3 rfl)
 have hLi:L.od[i]?=some c0:=by rw [hLd];exact w0
 exact ⟨(i+1,(tot+(((colsN b0.w b0.h tw th)*(rowsN b0.w b0.h tw th))+1)),(fl.set ((c0).toNat) tot),u3,(cl.set ((c0).toNat) (((colsN b0.w b0.h tw th)*(rowsN b0.w b0.h tw th))+1)),x3),od,alA,a4,om,v3,y3,(layw_step hg hLi hF hT hcn om om),(by rw [sum_take hLi,<-hT,<-hcn])⟩
theorem p20_low (p:Job) (tw:Int) (th:Int) (hp:Job.Ok [H] p) (hb:p.inputs.n<=1000000/\p.stages.n<=1000000/\p.outputs.n<=1000000) (hS:Sat W w (H::F)):
  Calls prog 16 #[.agg (encJob p).toArray,I tw,I th] w fun e w'=>∃(az:Option Addr) (nz kz:Nat) (zs:List Task) (Z G:Chunk),e= .returned (.tuple #[.slice az nz kz,I (lowC p.v tw th)])/\OwnT encTask 46 9 az nz kz zs Z/\(∀z∈zs,Task.Ok [G] z)/\zs.map Task.v=lowV p.v tw th/\Sat W w' (Z::G::H::F):=by
 have hl_p_inputs:=hp.inputs.le;have hn_p_inputs:=hp.inputs.len
 have hl_p_stages:=hp.stages.le;have hn_p_stages:=hp.stages.len
 have hl_p_outputs:=hp.outputs.le;have hn_p_outputs:=hp.outputs.len
 refine callsA 39 func16 rfl<|sR<|sBox hS (.agg (encJob p).toArray) (encJob p).toArray fun o0 _ p0=>pu2<|zS<|lA p0 0 0 4 (isAgg28 _) (sizeOf28 _)<|pu2<|sF #[.agg (encJob p).toArray,I tw,I th] call46 (Calls.mono (p20_plan (F:=[]) p tw th ⟨(RdT.flat (hp.inputs.up 1 (by rfl))),(fun z hz=>(hp.inputsD z hz).of_mem (mem_flat1 1 (by rfl))),(RdT.flat (hp.stages.up 1 (by rfl))),(fun z hz=>(hp.stagesD z hz).of_mem (mem_flat1 1 (by rfl))),(RdT.flat (hp.outputs.up 1 (by rfl)))⟩ om p0.flat) ?_)
 rintro _ _ (⟨c0,rfl,g0⟩|⟨c0,e0,a0,q0,rfl,b0,t0,u0,hx2_13,v0,w0,g0⟩)
 ·refine ⟨_,rfl,?_⟩
  have x0:=g0.unflat
  refine pu5<|zQ<|pu2<|nT<|cT _ (bne_iff_ne.2 c0)<|sR<|pu3<|zR<|retT [nS,I (lowC p.v tw th)] ?_
  have y0:=(x0.dropAt 0 rfl)
  have z0:Sat W _ ([]::[]::H::F):=Sat.nilc (Sat.nilc y0)
  exact ⟨none,0,0,[],_,_,rfl,OwnT.nil fR,(fun z hz=>by cases hz),by unfold lowV;rw [if_neg c0];rfl,z0⟩
 ·refine ⟨_,rfl,?_⟩
  obtain ⟨h0,i0⟩:∃z:Chunk,z=q0++(([(o0, .cells (encJob p).toArray 28 (0,0))]::H::F):List Chunk).flatten:=⟨_,rfl⟩;rw [<-i0] at b0;have j0:=g0;rw [<-i0] at j0
  have hl_x_8_jobInputs:=b0.jobInputs.le;have hn_x_8_jobInputs:=b0.jobInputs.len
  have hl_x_8_jobStages:=b0.jobStages.le;have hn_x_8_jobStages:=b0.jobStages.len
  have hl_x_8_jobOutputs:=b0.jobOutputs.le;have hn_x_8_jobOutputs:=b0.jobOutputs.len
  have hl_x_8_order:=b0.order.le;have hn_x_8_order:=b0.order.len
  have hl_x_8_shapes:=b0.shapes.le;have hn_x_8_shapes:=b0.shapes.len
  have hl_x_8_first:=b0.first.le;have hn_x_8_first:=b0.first.len
  have hl_x_8_count:=b0.count.le;have hn_x_8_count:=b0.count.len
  have hg:=u0;have hx2:=hx2_13;have hW:=v0;have htt:=w0
  refine pu5<|zQ<|pu2<|nT<|cFf<|kS<|pu1<|zQ<|pu3<|sL j0 0 6 (.slice a0.order.a a0.order.n a0.order.k) (isAgg22 _)<|pu2<|nT<|blockE ?_
  have a1:=Sat.nilc j0
  have b1:=OwnT.nil (enc:=encTask) (E:=46) (sz:=9) fR
  refine loopA (γ:=Nat×(List Task)×(Option Addr)×Nat×Nat×Chunk×Chunk) (fun ⟨i,zs,azs,nzs,kzs,czs,Gzs⟩=>[(8,Pt e0 0),(26, .slice a0.order.a a0.order.n a0.order.k),(27,I (a0.order.n:Int)),(28,I (i:Int)),(10, .slice azs nzs kzs)]) (fun ⟨i,zs,azs,nzs,kzs,czs,Gzs⟩ w=>Sat W w [Gzs,czs,[(e0, .cells (encLayM a0).toArray 97 (0,0))],h0]/\i<=a0.order.n/\(zs.map Task.v=(a0.L.od.take i).flatMap a0.L.tasks)/\((zs.length:Int)=((a0.L.od.take i).map a0.L.cnt).sum)/\OwnT encTask 46 9 azs nzs kzs zs czs/\(∀z∈zs,Task.Ok [Gzs] z)) (fun ⟨i,zs,azs,nzs,kzs,czs,Gzs⟩=>a0.order.n-i) (0,[],none,0,0,[],[]) ⟨(Sat.nilc a1),om,by rfl,(by simp),b1,(by intro z hz;cases hz)⟩ ?_
  rintro ⟨i,zs,azs,nzs,kzs,czs,Gzs⟩ ρ d1 ⟨k0,hi,hE,hzl,hOzs,hDzs⟩
  have hn_zs:=hOzs.len;have hl_zs:=hOzs.le
  refine sR<|pu1<|nT<|seqE<|cD ((i:Int)<(a0.order.n:Int)) (fun e1=>?_) (fun e1=>?_)
  rotate_left
  ·refine exitE<|xB<|tN<|sR<|pu3<|zE<|retT [.slice azs nzs kzs,I 0] ?_
   have f1:=((k0.pick 1 rfl).dropAt 2 rfl)
   have g1:Sat W d1 (czs::Gzs::q0::[(o0, .cells (encJob p).toArray 28 (0,0))]::H::F):=by have h9:=f1;rw [i0] at h9;exact Sat.perm h9 (by simp [Value.cells])
   have h1:=(g1.drops [2,2])
   have hz:zs.map Task.v=lowV p.v tw th:=by unfold lowV;rw [if_pos c0,<-t0];unfold Lay.all;rw [hE,List.take_of_length_le (by show a0.order.l.length<=_;omega)]
   exact ⟨_,_,_,_,_,_,by rw [c0];rfl,hOzs,hDzs,hz,h1⟩
  refine kT<|seqE<|blockE<|sR<|sIdx b0.order (i:Int) runUnderlying22 sizeOf3 fun f0 _ _ d0 i1=>?_
  rw [Int.toNat_natCast] at d0
  have hnd:f0∈a0.L.od:=List.mem_of_getElem? d0;have hcb:=hg.cntb hnd;have hts:=take_sum_le hg i;have hts1:=take_sum_le hg (i+1);rw [sum_take (l:=a0.L.od) d0] at hts1
  refine sLp k0 (i1.up 3 rfl) 0 (I f0) (isAgg3 _)<|pu1<|nT<|rE<|pu3 ?_
  have j1:=(k0.pick 2 rfl)
  refine cX call47 (p20_tasks (b0.of_mem (mem_flat1 2 (by rfl))) f0 hg hx2 hW hnd htt j1.flat1) ?_
  rintro _ _ ⟨_,k1,_,r0,_,l0,rfl,m0,l1,s0,m1⟩
  have n1:=m1.unflat3;have hn_az_37:=m0.len;have hl_az_37:=m0.le
  have hzl_az_37:(r0.length:Int)=a0.L.cnt f0:=by rw [<-tasks_len hg hnd,<-s0,List.length_map]
  refine sApp (nb:=88) n1 hOzs 4 (m0.rdAt 0 rfl) underlying39 (i:=Tryz.t46) kr fR fun o1 q1 n0 _ r1 s1=>pu1<|nB<|rE<|sAdd (i:Int) 1<|pu1<|nT ?_
  have t1:=((s1.picks [4,4,3]).dropAt 3 rfl)
  exact ⟨(i+1,(zs++r0),o1,(nzs+k1),q1,n0,(l0++Gzs)),od,alA,(Sat.perm (cs':=(l0++Gzs)::(n0::[(e0, .cells (encLayM a0).toArray 97 (0,0))]::h0::[])) (show Sat W _ [l0,Gzs,n0,[(e0, .cells (encLayM a0).toArray 97 (0,0))],h0] from t1) (by simp)),om,(by rw [List.map_append,hE,s0,<-take_flat (l:=a0.L.od) d0]),(by rw [List.length_append,sum_take (l:=a0.L.od) d0,<-hzl,<-hzl_az_37];push_cast;rfl),r1,(by
    intro z hz
    rcases List.mem_append.1 hz with h|h
    ·exact (hDzs z h).of_mem mS
    ·exact (l1 z h).of_mem mS)⟩
theorem p20_cells (p:Job) (tw:Int) (th:Int) (hp:Job.Ok [H] p) (hb:p.inputs.n<=1000000/\p.stages.n<=1000000/\p.outputs.n<=1000000) (hS:Sat W w (H::F)):
  Calls prog 20 #[.agg (encJob p).toArray,I tw,I th] w fun e w'=>e= .returned (.tuple #[I (celV p.v tw th),I (lowC p.v tw th)])/\Sat W w' (H::F):=by
 have hl_p_inputs:=hp.inputs.le;have hn_p_inputs:=hp.inputs.len
 have hl_p_stages:=hp.stages.le;have hn_p_stages:=hp.stages.len
 have hl_p_outputs:=hp.outputs.le;have hn_p_outputs:=hp.outputs.len
 refine callsA 73 func20 rfl<|sR<|sBox hS (.agg (encJob p).toArray) (encJob p).toArray fun s0 _ t0=>pu2<|zS<|lA t0 0 0 4 (isAgg28 _) (sizeOf28 _)<|pu2<|sF #[.agg (encJob p).toArray,I tw,I th] call46 (Calls.mono (p20_plan (F:=[]) p tw th ⟨(RdT.flat (hp.inputs.up 1 (by rfl))),(fun z hz=>(hp.inputsD z hz).of_mem (mem_flat1 1 (by rfl))),(RdT.flat (hp.stages.up 1 (by rfl))),(fun z hz=>(hp.stagesD z hz).of_mem (mem_flat1 1 (by rfl))),(RdT.flat (hp.outputs.up 1 (by rfl)))⟩ om t0.flat) ?_)
 rintro _ _ (⟨h0,rfl,l0⟩|⟨h0,i0,a0,u0,rfl,c0,z0,a1,hx2_13,b1,d1,l0⟩)
 ·refine ⟨_,rfl,?_⟩
  have e1:=l0.unflat
  exact pu5<|zQ<|pu2<|nT<|cT _ (bne_iff_ne.2 h0)<|sR<|pu3<|zR<|retT [I 0,I (lowC p.v tw th)]<|⟨by unfold celV;rw [if_neg h0];rfl,(e1.dropAt 0 rfl)⟩
 ·refine ⟨_,rfl,?_⟩
  obtain ⟨v0,m0⟩:∃z:Chunk,z=u0++(([(s0, .cells (encJob p).toArray 28 (0,0))]::H::F):List Chunk).flatten:=⟨_,rfl⟩;rw [<-m0] at c0;have n0:=l0;rw [<-m0] at n0
  have hl_x_8_jobInputs:=c0.jobInputs.le;have hn_x_8_jobInputs:=c0.jobInputs.len
  have hl_x_8_jobStages:=c0.jobStages.le;have hn_x_8_jobStages:=c0.jobStages.len
  have hl_x_8_jobOutputs:=c0.jobOutputs.le;have hn_x_8_jobOutputs:=c0.jobOutputs.len
  have hl_x_8_order:=c0.order.le;have hn_x_8_order:=c0.order.len
  have hl_x_8_shapes:=c0.shapes.le;have hn_x_8_shapes:=c0.shapes.len
  have hl_x_8_first:=c0.first.le;have hn_x_8_first:=c0.first.len
  have hl_x_8_count:=c0.count.le;have hn_x_8_count:=c0.count.len
  have hg:=a1;have hx2:=hx2_13;have hW:=b1;have htt:=d1
  refine pu5<|zQ<|pu2<|nT<|cFf<|kS<|pu1<|zQ<|pu3<|sL n0 0 7 (.slice a0.shapes.a a0.shapes.n a0.shapes.k) (isAgg61 _)<|pu2<|nT<|blockE<|loopA (γ:=Nat×Int) (fun ⟨i,c1⟩=>[(8,Pt i0 0),(29, .slice a0.shapes.a a0.shapes.n a0.shapes.k),(30,I (a0.shapes.n:Int)),(31,I (i:Int)),(10,I c1)]) (fun ⟨i,c1⟩ w=>Sat W w [[(i0, .cells (encLayM a0).toArray 97 (0,0))],v0]/\i<=a0.shapes.n/\(c1=((a0.L.sh.take i).map fun m=>m.w*m.h).sum)) (fun ⟨i,c1⟩=>a0.shapes.n-i) (0,0) ⟨n0,om,(by simp)⟩ ?_
  rintro ⟨i,c1⟩ ρ _ ⟨j0,hi,hE⟩
  refine sR<|pu1<|nT<|seqE<|cD ((i:Int)<(a0.shapes.n:Int)) (fun g1=>?_) (fun g1=>?_)
  ·refine kT<|seqE<|blockE<|sR<|sIdx c0.shapes (i:Int) runUnderlying61 sizeOf54 fun b0 _ _ o0 h1=>?_
   rw [Int.toNat_natCast] at o0
   have hgl:=hg.len;have hgn0:=hg.ni;simp only [LayM.L] at hgl hgn0
   have hsz:=sh_bd hg (show a0.L.sh[i]?=some b0 from o0);unfold szP at hsz;have hcs:=cellsum_le hg i (show i<=a0.shapes.l.length by omega);have hmw:=mul_bd (a:=b0.w) (b:=b0.h) (A:=128) (B:=128) om om
   refine sLpA j0 (h1.up 1 rfl) 0 [I b0.w,I b0.h,I b0.max_] (isAgg54 _) (sizeOf54 _)<|sAlloc j0 zeroValue54 fun _ _ i1=>?_
   exact sT i1 0 0 (.agg #[I b0.w,I b0.h,I b0.max_]) [I b0.w,I b0.h,I b0.max_] #[I b0.w,I b0.h,I b0.max_] sizeOf54 fun _ p0=>nT<|rE<|pu2<|sL p0 0 0 (I b0.w) (isAgg3 _)<|pu1<|sL p0 0 1 (I b0.h) (isAgg3 _)<|sMul b0.w b0.h<|sAdd c1 (b0.w*b0.h)<|pu1<|nB<|rE<|sAdd (i:Int) 1<|pu1<|nT<|⟨(i+1,(c1+(b0.w*b0.h))),od,alA,(p0.dropAt 0 rfl),om,(by rw [List.take_add_one,show a0.L.sh[i]?=some b0 from o0,Option.toList_some,List.map_append,List.sum_append,<-hE];simp)⟩
  refine exitE<|xB<|tN<|seqE<|sR<|pu3<|sL j0 0 6 (.slice a0.order.a a0.order.n a0.order.k) (isAgg22 _)<|pu2<|nT<|blockE<|loopA (γ:=Nat×Int) (fun ⟨j,c2⟩=>[(8,Pt i0 0),(46, .slice a0.order.a a0.order.n a0.order.k),(47,I (a0.order.n:Int)),(48,I (j:Int)),(10,I c2)]) (fun ⟨j,c2⟩ w=>Sat W w [[(i0, .cells (encLayM a0).toArray 97 (0,0))],v0]/\j<=a0.order.n/\(c2=c1+((a0.L.od.take j).map (histC a0.L)).sum)) (fun ⟨j,c2⟩=>a0.order.n-j) (0,c1) ⟨j0,om,(by simp)⟩ ?_
  rintro ⟨j,c2⟩ ρ k1 ⟨q0,hj,hE2⟩
  have hgl:=hg.len;have hgn0:=hg.ni;have hgo:=hg.ln;simp only [LayM.L] at hgl hgn0 hgo;have hcs9:=cellsum_le hg i (show i<=a0.shapes.l.length by omega)
  refine sR<|pu1<|nT<|seqE<|cD ((j:Int)<(a0.order.n:Int)) (fun l1=>?_) (fun l1=>?_)
  rotate_left
  ·refine exitE<|xB<|tN<|sR<|pu3<|zE<|retT [I c2,I 0] ?_
   have m1:=(q0.dropAt 0 rfl)
   have n1:Sat W k1 (u0::[(s0, .cells (encJob p).toArray 28 (0,0))]::H::F):=by have h9:=m1;rw [m0] at h9;exact Sat.perm h9 (by simp [Value.cells])
   have o1:=(n1.drops [0,0])
   have hz:c2=celV p.v tw th:=by unfold celV;rw [if_pos h0,<-z0];unfold Lay.cells;rw [hE2,hE,List.take_of_length_le (by show a0.shapes.l.length<=_;omega),List.take_of_length_le (l:=a0.L.od) (by show a0.order.l.length<=_;omega)];rfl
   exact ⟨by rw [h0,<-hz];rfl,o1⟩
  refine kT<|seqE<|blockE<|sR<|sIdx c0.order (j:Int) runUnderlying22 sizeOf3 fun e0 _ _ k0 q1=>?_
  rw [Int.toNat_natCast] at k0
  have hnd:e0∈a0.L.od:=List.mem_of_getElem? k0;have hcb:=hg.cntb hnd;have hrn:=hg.rng e0 hnd;have hgn:=hg.ni;simp only [LayM.L,List.length_map] at hrn hgn;have hbk:=hg.byt hnd;have hhs:=histsum_le hg j (show j<=a0.order.l.length by omega);have hhb:=hist_bd hg hnd
  have hb2:=(List.getElem?_eq_some_iff.1 (hW e0 hnd).2).1
  refine sLp q0 (q1.up 1 rfl) 0 (I e0) (isAgg3 _)<|pu1<|zS<|pu2<|cX call60 (p20_stage (c0.of_mem (mem_flat1 0 (by rfl))) e0 om om q0.flat1) ?_
  rintro _ _ ⟨d0,rfl,w0,r1⟩
  have s1:=r1.unflat1
  have hok_q_46:=c0.jobStagesD d0 (List.mem_of_getElem? w0);have hst_q_46:=lay_st w0
  refine sAlloc s1 zeroValue38 fun t1 _ u1=>?_
  refine sT u1 0 0 (.agg (encStage d0).toArray) (encStage d0) (encStage d0).toArray sizeOf38 fun _ g0=>zS<|pu1<|sL g0 0 0 (I d0.kind) (isAgg3 _)<|pu1<|nT<|cE d0.kind 4 (fun r0=>?_) (fun r0=>?_)
  rotate_left
  ·refine skipE<|bN<|tN<|rE<|sAdd (j:Int) 1<|pu1<|nT ?_
   exact ⟨(j+1,c2),od,alA,(g0.dropAt 0 rfl),om,(by rw [sum_take (l:=a0.L.od) k0,show histC a0.L e0=0 from by unfold histC;rw [hst_q_46,if_neg (show ¬d0.v.kind=4 from r0)],hE2];omega)⟩
  have hhc:histC a0.L e0=d0.bins*(a0.L.cnt e0-1):=by unfold histC;rw [hst_q_46,if_pos (show d0.v.kind=4 from r0)];rfl
  rw [hst_q_46] at hbk;unfold bytOK at hbk;simp only [Stage.v] at hbk
  obtain ⟨f0,x0,y0,w1,x1,y1⟩:=RdT.elem c0.count e0
  have hc_x_54:a0.L.cnt e0=f0:=Option.some.inj ((hW e0 hnd).2.symm.trans w1)
  have hmq:=mul_bd (a:=d0.bins) (b:=f0-1) (A:=128) (B:=16384) om om
  refine drawE [] [(2,⟨t1,15,none⟩,I d0.bins),(6,⟨i0,9,none⟩, .slice a0.count.a a0.count.n a0.count.k),(9,⟨x0,y0,none⟩,I f0)] [(true,[0,1,3,4,5,7]),(true,[2]),(true,[6]),(true,[8]),(true,[9]),(true,[10]),(true,[11]),(true,[12]),(true,[13])] rfl kr ⟨cI g0 0,cI g0 1, .inr ((x1.up 2 rfl).cell g0 (k:=0) rfl),trivial⟩ ?_
  have z1:=g0.drew
  exact wU [0,1,3,4,5,7]<|wLd (I d0.bins) 0 isAgg3<|wLd (.slice a0.count.a a0.count.n a0.count.k) 1 isAgg22<|wY (.pointer (some ⟨x0,y0,none⟩)) rfl (fun w _=>Y_idx (a:=a0.count.a) (i:=e0) (len:=a0.count.n) (cap:=a0.count.k) rfl runUnderlying22 sizeOf3 kr kr y1)<|wLd (I f0) 2 isAgg3<|wSub f0 1<|wMul d0.bins (f0-1)<|wAdd c2 (d0.bins*(f0-1))<|wU [13]<|wN<|bN<|tN<|rE<|sAdd (j:Int) 1<|pu1<|nT<|⟨(j+1,(c2+(d0.bins*(f0-1)))),od,alA,(z1.dropAt 0 rfl),om,(by rw [sum_take (l:=a0.L.od) k0,hhc,hc_x_54,hE2];omega)⟩
end Go.Proofs.YtdingplbadblpaaGreat
namespace Go.E
set_option linter.all false
section
variable {P:Program} {n:Nat} {ρ:Env} {W w:World} {cs:List Chunk} {ops:Array Oper} {rest:List Oper} {N:Env->World->Prop} {o:Oper}
end
end Go.E

namespace Go.Proofs.YtdingplbadblpaaGreat
open Go Go.E Go.Proofs.Tryz
set_option linter.all false
set_option maxRecDepth 100000
set_option maxHeartbeats 2000000
variable {W w:World} {H:Chunk} {F:List Chunk}
def ixs (L:Lay) (k:Nat):List Int:=(List.range k).map fun (i:Nat)=>L.ni+(i:Int)
theorem LayG.perm {L:Lay} (g:LayG L):(ixs L L.ss.length).Perm L.od:=by
  refine (List.perm_ext_iff_of_nodup ?_ g.nd).2 (fun x=>?_)
  · unfold ixs
    rw [List.nodup_iff_pairwise_ne,List.pairwise_map]
    exact List.Pairwise.imp (fun h=>by omega) List.pairwise_lt_range
  · unfold ixs
    simp only [List.mem_map,List.mem_range]
    constructor
    · rintro ⟨i,hi,rfl⟩;exact g.every _ (by omega) (by omega)
    · intro hx;have:=g.rng x hx;exact ⟨(x-L.ni).toNat,by omega,by omega⟩
end Go.Proofs.YtdingplbadblpaaGreat

namespace Go.Proofs.YtdingplbadblpaaGreat
open Go Go.E Go.Proofs.Tryz
set_option linter.all false
set_option maxRecDepth 100000
set_option maxHeartbeats 2000000
variable {W w:World} {H:Chunk} {F:List Chunk}
end Go.Proofs.YtdingplbadblpaaGreat

namespace Go.Proofs.YtdingplbadblpaaGreat
open Go Go.E Go.Proofs.Tryz
set_option linter.all false
set_option maxRecDepth 100000
set_option maxHeartbeats 2000000
variable {W w:World} {H:Chunk} {F:List Chunk}
end Go.Proofs.YtdingplbadblpaaGreat

namespace Go.Proofs.YtdingplbadblpaaGreat
open Go Go.E Go.Proofs.Tryz
set_option linter.all false
set_option maxRecDepth 100000
set_option maxHeartbeats 2000000
variable {W w:World} {H:Chunk} {F:List Chunk}
theorem same_at {x y:List Task} {i:Nat} {a b:Task} (h:x.map Task.v=y.map Task.v) (ha:x[i]?=some a) (hb:y[i]?=some b):a.stage=b.stage/\a.part=b.part/\a.rectX0=b.rectX0/\a.rectY0=b.rectY0/\a.rectX1=b.rectX1/\a.rectY1=b.rectY1/\a.deps.l=b.deps.l/\a.rows=b.rows/\a.scratch=b.scratch:=by
  have h1:=map_at (f:=Task.v) ha
  rw [h,map_at (f:=Task.v) hb] at h1
  have h2:=Option.some.inj h1
  simp only [Task.v,TaskV.mk.injEq] at h2
  obtain ⟨h1,h2,h3,h4,h5,h6,h7,h8,h9⟩:=h2
  exact ⟨h1.symm,h2.symm,h3.symm,h4.symm,h5.symm,h6.symm,h7.symm,h8.symm,h9.symm⟩
theorem r20_same (ax:Option Addr) (nx kx:Nat) (x:List Task) (ay:Option Addr) (ny ky:Nat) (y:List Task) (hx:RdT encTask 9 [H] ax nx kx x) (dx:∀z∈x,Task.Ok [H] z) (hy:RdT encTask 9 [H] ay ny ky y) (dy:∀z∈y,Task.Ok [H] z) (he:x.map Task.v=y.map Task.v) (hS:Sat W w (H::F)):
  Ro prog 22 #[.slice ax nx kx, .slice ay ny ky] (.bool true) W w (H::F):=by
 have hl_x:=hx.le;have hn_x:=hx.len
 have hl_y:=hy.le;have hn_y:=hy.len
 have hln:=congrArg List.length he;rw [List.length_map,List.length_map] at hln
 refine callsA 123 func22 rfl<|sR<|pu1<|zQ<|pu5<|nT ?_
 have d1:((nx:Int):Int)=(ny:Int):=by omega
 refine cF _ (bne_eq_false_iff_eq.2 d1)<|kT<|seqE<|sR<|pu1<|nT<|blockE<|loopA (γ:=Nat) (fun i=>[(0, .slice ax nx kx),(1, .slice ay ny ky),(5,I (i:Int))]) (fun i w=>Sat W w (H::F)/\i<=nx) (fun i=>nx-i) 0 ⟨hS,om⟩ ?_
 rintro i ρ _ ⟨c0,hi⟩
 refine seqE<|sR<|pu4<|nT<|cD ((i:Int)<(nx:Int)) (fun e1=>?_) (fun e1=>?_)
 rotate_left
 ·exact exitE<|xB<|tN<|sR<|pu1<|zE<|retT [.bool true]<|⟨rfl,c0⟩
 refine kT<|seqE<|blockE<|seqE<|seqE ?_
 obtain ⟨a0,d0,e0,k0,h0,l0⟩:=RdT.elem hx (i:Int)
 rw [Int.toNat_natCast] at k0
 have hq_x_5:=(dx a0 (List.mem_of_getElem? k0)).deps.len;have hqe_x_5:=(dx a0 (List.mem_of_getElem? k0)).deps.le
 obtain ⟨b0,f0,g0,p0,i0,m0⟩:=RdT.elem hy (i:Int)
 rw [Int.toNat_natCast] at p0
 have hq_x_11:=(dy b0 (List.mem_of_getElem? p0)).deps.len;have hqe_x_11:=(dy b0 (List.mem_of_getElem? p0)).deps.le
 have hv:=same_at he k0 p0;obtain ⟨v1,v2,v3,v4,v5,v6,v7,v8,v9⟩:=hv
 have v7n:=congrArg List.length v7
 have f1:(a0.stage:Int)=b0.stage:=by omega
 have g1:(a0.part:Int)=b0.part:=by omega
 have h1:(a0.rectX0:Int)=b0.rectX0/\(a0.rectY0:Int)=b0.rectY0/\(a0.rectX1:Int)=b0.rectX1/\(a0.rectY1:Int)=b0.rectY1:=⟨om,om,om,om⟩
 have i1:(a0.rows:Int)=b0.rows:=by omega
 have j1:(a0.scratch:Int)=b0.scratch:=by omega
 refine drawE [] [(4,⟨d0,e0+0,none⟩,I a0.stage),(9,⟨f0,g0+0,none⟩,I b0.stage),(16,⟨d0,e0+1,none⟩,I a0.part),(21,⟨f0,g0+1,none⟩,I b0.part),(29,⟨d0,e0+2+0,none⟩,I a0.rectX0),(29,⟨d0,e0+2+1,none⟩,I a0.rectY0),(29,⟨d0,e0+2+2,none⟩,I a0.rectX1),(29,⟨d0,e0+2+3,none⟩,I a0.rectY1),(34,⟨f0,g0+2+0,none⟩,I b0.rectX0),(34,⟨f0,g0+2+1,none⟩,I b0.rectY0),(34,⟨f0,g0+2+2,none⟩,I b0.rectX1),(34,⟨f0,g0+2+3,none⟩,I b0.rectY1),(42,⟨d0,e0+7,none⟩,I a0.rows),(47,⟨f0,g0+7,none⟩,I b0.rows),(55,⟨d0,e0+8,none⟩,I a0.scratch),(60,⟨f0,g0+8,none⟩,I b0.scratch),(68,⟨d0,e0+6,none⟩, .slice a0.deps.a a0.deps.n a0.deps.k),(74,⟨f0,g0+6,none⟩, .slice b0.deps.a b0.deps.n b0.deps.k)] [(true,[0,1]),(true,[2]),(true,[3,5,6]),(true,[7]),(true,[8]),(true,[4]),(true,[9]),(true,[10,11]),(true,[12,13]),(true,[14]),(true,[15,17,18]),(true,[19]),(true,[20]),(true,[16]),(true,[21]),(true,[22,23,24]),(true,[25,26]),(true,[27]),(true,[28,30,31]),(true,[32]),(true,[33]),(true,[29]),(true,[34]),(true,[35]),(true,[36,37]),(true,[38,39]),(true,[40]),(true,[41,43,44]),(true,[45]),(true,[46]),(true,[42]),(true,[47]),(true,[48,49,50]),(true,[51,52]),(true,[53]),(true,[54,56,57]),(true,[58]),(true,[59]),(true,[55]),(true,[60]),(true,[61,62,63]),(true,[64,65]),(true,[66]),(true,[67,70,71]),(true,[72]),(true,[73]),(true,[68]),(true,[69]),(true,[74]),(true,[75,76,77])] rfl kr ⟨.inr ((h0.up 0 rfl).cell c0 (k:=0) rfl), .inr ((i0.up 0 rfl).cell c0 (k:=0) rfl), .inr ((h0.up 0 rfl).cell c0 (k:=1) rfl), .inr ((i0.up 0 rfl).cell c0 (k:=1) rfl), .inr ((h0.up 0 rfl).cell c0 (k:=2) rfl), .inr ((h0.up 0 rfl).cell c0 (k:=3) rfl), .inr ((h0.up 0 rfl).cell c0 (k:=4) rfl), .inr ((h0.up 0 rfl).cell c0 (k:=5) rfl), .inr ((i0.up 0 rfl).cell c0 (k:=2) rfl), .inr ((i0.up 0 rfl).cell c0 (k:=3) rfl), .inr ((i0.up 0 rfl).cell c0 (k:=4) rfl), .inr ((i0.up 0 rfl).cell c0 (k:=5) rfl), .inr ((h0.up 0 rfl).cell c0 (k:=7) rfl), .inr ((i0.up 0 rfl).cell c0 (k:=7) rfl), .inr ((h0.up 0 rfl).cell c0 (k:=8) rfl), .inr ((i0.up 0 rfl).cell c0 (k:=8) rfl), .inr ((h0.up 0 rfl).cell c0 (k:=6) rfl), .inr ((i0.up 0 rfl).cell c0 (k:=6) rfl),trivial⟩ ?_
 have k1:=c0.drew
 refine wU [0,1]<|wY (.pointer (some ⟨d0,e0,none⟩)) rfl (fun w _=>Y_idx (a:=ax) (i:=(i:Int)) (len:=nx) (cap:=kx) rfl runUnderlying39 sizeOf46 kr kr l0)<|wU [3,5,6]<|wY (.pointer (some ⟨f0,g0,none⟩)) rfl (fun w _=>Y_idx (a:=ay) (i:=(i:Int)) (len:=ny) (cap:=ky) rfl runUnderlying39 sizeOf46 kr kr m0)<|wU [8]<|wLd (I a0.stage) 0 isAgg3<|wLd (I b0.stage) 1 isAgg3<|wU [10,11]<|wFix 29 _ false (bne_eq_false_iff_eq.2 f1)<|wU [12,13]<|wY (.pointer (some ⟨d0,e0,none⟩)) rfl (fun w _=>Y_idx (a:=ax) (i:=(i:Int)) (len:=nx) (cap:=kx) rfl runUnderlying39 sizeOf46 kr kr l0)<|wU [15,17,18] ?_
 refine wY (.pointer (some ⟨f0,g0,none⟩)) rfl (fun w _=>Y_idx (a:=ay) (i:=(i:Int)) (len:=ny) (cap:=ky) rfl runUnderlying39 sizeOf46 kr kr m0)<|wU [20]<|wLd (I a0.part) 2 isAgg3<|wLd (I b0.part) 3 isAgg3<|wU [22,23,24]<|wFix 42 _ false (bne_eq_false_iff_eq.2 g1)<|wU [25,26]<|wY (.pointer (some ⟨d0,e0,none⟩)) rfl (fun w _=>Y_idx (a:=ax) (i:=(i:Int)) (len:=nx) (cap:=kx) rfl runUnderlying39 sizeOf46 kr kr l0)<|wU [28,30,31]<|wY (.pointer (some ⟨f0,g0,none⟩)) rfl (fun w _=>Y_idx (a:=ay) (i:=(i:Int)) (len:=ny) (cap:=ky) rfl runUnderlying39 sizeOf46 kr kr m0)<|wU [33] ?_
 refine wY (.agg #[I a0.rectX0,I a0.rectY0,I a0.rectX1,I a0.rectY1]) rfl (fun w hF=>Y_loadF rfl (isAgg44 w) (sizeOf44 w) kr rfl ⟨hF 4 _ _ rfl,hF 5 _ _ rfl,hF 6 _ _ rfl,hF 7 _ _ rfl,trivial⟩)<|wY (.agg #[I b0.rectX0,I b0.rectY0,I b0.rectX1,I b0.rectY1]) rfl (fun w hF=>Y_loadF rfl (isAgg44 w) (sizeOf44 w) kr rfl ⟨hF 8 _ _ rfl,hF 9 _ _ rfl,hF 10 _ _ rfl,hF 11 _ _ rfl,trivial⟩)<|wY (.bool (!(((a0.rectX0:Int)==b0.rectX0)&&((a0.rectY0:Int)==b0.rectY0)&&((a0.rectX1:Int)==b0.rectX1)&&((a0.rectY1:Int)==b0.rectY1)))) rfl (fun w _=>Y_eqS rfl kr kr (eqvn44 _ a0.rectX0 a0.rectY0 a0.rectX1 a0.rectY1 b0.rectX0 b0.rectY0 b0.rectX1 b0.rectY1)) ?_
 refine wU [36,37]<|wFix 55 _ false (congrArg Bool.not (show (((a0.rectX0:Int)==b0.rectX0)&&((a0.rectY0:Int)==b0.rectY0)&&((a0.rectX1:Int)==b0.rectX1)&&((a0.rectY1:Int)==b0.rectY1))=true from by simpa [and_assoc] using h1)) ?_
 refine wU [38,39]<|wY (.pointer (some ⟨d0,e0,none⟩)) rfl (fun w _=>Y_idx (a:=ax) (i:=(i:Int)) (len:=nx) (cap:=kx) rfl runUnderlying39 sizeOf46 kr kr l0)<|wU [41,43,44]<|wY (.pointer (some ⟨f0,g0,none⟩)) rfl (fun w _=>Y_idx (a:=ay) (i:=(i:Int)) (len:=ny) (cap:=ky) rfl runUnderlying39 sizeOf46 kr kr m0)<|wU [46]<|wLd (I a0.rows) 12 isAgg3<|wLd (I b0.rows) 13 isAgg3<|wU [48,49,50]<|wFix 68 _ false (bne_eq_false_iff_eq.2 i1)<|wU [51,52]<|wY (.pointer (some ⟨d0,e0,none⟩)) rfl (fun w _=>Y_idx (a:=ax) (i:=(i:Int)) (len:=nx) (cap:=kx) rfl runUnderlying39 sizeOf46 kr kr l0)<|wU [54,56,57] ?_
 refine wY (.pointer (some ⟨f0,g0,none⟩)) rfl (fun w _=>Y_idx (a:=ay) (i:=(i:Int)) (len:=ny) (cap:=ky) rfl runUnderlying39 sizeOf46 kr kr m0)<|wU [59]<|wLd (I a0.scratch) 14 isAgg3<|wLd (I b0.scratch) 15 isAgg3<|wU [61,62,63]<|wFix 81 _ false (bne_eq_false_iff_eq.2 j1)<|wU [64,65]<|wY (.pointer (some ⟨d0,e0,none⟩)) rfl (fun w _=>Y_idx (a:=ax) (i:=(i:Int)) (len:=nx) (cap:=kx) rfl runUnderlying39 sizeOf46 kr kr l0)<|wU [67,70,71]<|wY (.pointer (some ⟨f0,g0,none⟩)) rfl (fun w _=>Y_idx (a:=ay) (i:=(i:Int)) (len:=ny) (cap:=ky) rfl runUnderlying39 sizeOf46 kr kr m0)<|wU [73] ?_
 refine wLd (.slice a0.deps.a a0.deps.n a0.deps.k) 16 isAgg22<|wU [69]<|wLd (.slice b0.deps.a b0.deps.n b0.deps.k) 17 isAgg22<|wU [75,76,77]<|wN<|tN ?_
 have l1:((a0.deps.n:Int):Int)=(b0.deps.n:Int):=by omega
 refine cF _ (bne_eq_false_iff_eq.2 l1)<|kS<|pu1<|nT<|blockE<|loopA (γ:=Nat) (fun k=>[(0, .slice ax nx kx),(1, .slice ay ny ky),(5,I (i:Int)),(6,I (k:Int))]) (fun k w=>Sat W w (H::F)/\k<=a0.deps.n) (fun k=>a0.deps.n-k) 0 ⟨k1,om⟩ ?_
 rintro k ρ _ ⟨j0,hk⟩
 refine seqE<|sR<|pu3<|sIdx hx (i:Int) runUnderlying39 sizeOf46 fun m1 _ _ q0 n1=>?_
 rw [Int.toNat_natCast] at q0
 obtain rfl:a0=m1:=Option.some.inj (k0.symm.trans q0)
 have hq_x_5:=(dx a0 (List.mem_of_getElem? q0)).deps.len;have hqe_x_5:=(dx a0 (List.mem_of_getElem? q0)).deps.le
 refine pu1<|sLp j0 (n1.up 0 rfl) 6 (.slice a0.deps.a a0.deps.n a0.deps.k) (isAgg22 _)<|pu2<|nT<|cD ((k:Int)<(a0.deps.n:Int)) (fun o1=>?_) (fun o1=>?_)
 rotate_left
 ·exact exitE<|xB<|bN<|tN<|rE<|pu1<|sAdd (i:Int) 1<|pu1<|nT<|⟨i+1,od,alA,j0,om⟩
 refine kT<|seqE<|blockE<|seqE ?_
 obtain ⟨q1,t0,u0,n0,r1,s1⟩:=RdT.elem hx (i:Int)
 rw [Int.toNat_natCast] at n0
 obtain rfl:a0=q1:=Option.some.inj (k0.symm.trans n0)
 have hq_x_5:=(dx a0 (List.mem_of_getElem? n0)).deps.len;have hqe_x_5:=(dx a0 (List.mem_of_getElem? n0)).deps.le
 obtain ⟨t1,v0,w0,o0,u1,w1⟩:=RdT.elem hy (i:Int)
 rw [Int.toNat_natCast] at o0
 obtain rfl:b0=t1:=Option.some.inj (p0.symm.trans o0)
 have hq_x_11:=(dy b0 (List.mem_of_getElem? o0)).deps.len;have hqe_x_11:=(dy b0 (List.mem_of_getElem? o0)).deps.le
 have hv:=same_at he n0 o0;obtain ⟨v1,v2,v3,v4,v5,v6,v7,v8,v9⟩:=hv
 have v7n:=congrArg List.length v7
 obtain ⟨r0,x0,y0,z0,x1,y1⟩:=RdT.elem (dx a0 (List.mem_of_getElem? n0)).deps (k:Int)
 rw [Int.toNat_natCast] at z0
 obtain ⟨s0,a1,b1,c1,z1,a2⟩:=RdT.elem (dy b0 (List.mem_of_getElem? o0)).deps (k:Int)
 rw [Int.toNat_natCast] at c1
 have hdd:r0=s0:=by have h:=z0;rw [v7,c1] at h;exact (Option.some.inj h).symm
 refine drawE [] [(4,⟨t0,u0+6,none⟩, .slice a0.deps.a a0.deps.n a0.deps.k),(7,⟨x0,y0,none⟩,I r0),(12,⟨v0,w0+6,none⟩, .slice b0.deps.a b0.deps.n b0.deps.k),(15,⟨a1,b1,none⟩,I s0)] [(true,[0,1]),(true,[2]),(true,[3,5,8,9]),(true,[10]),(true,[11,13]),(true,[4]),(true,[6]),(true,[7]),(true,[12]),(true,[14]),(true,[15]),(true,[16])] rfl kr ⟨.inr ((r1.up 0 rfl).cell j0 (k:=6) rfl), .inr ((x1.up 0 rfl).cell j0 (k:=0) rfl), .inr ((u1.up 0 rfl).cell j0 (k:=6) rfl), .inr ((z1.up 0 rfl).cell j0 (k:=0) rfl),trivial⟩ ?_
 have b2:=j0.drew
 refine wU [0,1]<|wY (.pointer (some ⟨t0,u0,none⟩)) rfl (fun w _=>Y_idx (a:=ax) (i:=(i:Int)) (len:=nx) (cap:=kx) rfl runUnderlying39 sizeOf46 kr kr s1)<|wU [3,5,8,9]<|wY (.pointer (some ⟨v0,w0,none⟩)) rfl (fun w _=>Y_idx (a:=ay) (i:=(i:Int)) (len:=ny) (cap:=ky) rfl runUnderlying39 sizeOf46 kr kr w1)<|wU [11,13]<|wLd (.slice a0.deps.a a0.deps.n a0.deps.k) 0 isAgg22<|wY (.pointer (some ⟨x0,y0,none⟩)) rfl (fun w _=>Y_idx (a:=a0.deps.a) (i:=(k:Int)) (len:=a0.deps.n) (cap:=a0.deps.k) rfl runUnderlying22 sizeOf3 kr kr y1)<|wLd (I r0) 1 isAgg3<|wLd (.slice b0.deps.a b0.deps.n b0.deps.k) 2 isAgg22 ?_
 refine wY (.pointer (some ⟨a1,b1,none⟩)) rfl (fun w _=>Y_idx (a:=b0.deps.a) (i:=(k:Int)) (len:=b0.deps.n) (cap:=b0.deps.k) rfl runUnderlying22 sizeOf3 kr kr a2)<|wLd (I s0) 3 isAgg3<|wU [16]<|wN<|tN ?_
 have c2:(r0:Int)=s0:=by omega
 exact cF _ (bne_eq_false_iff_eq.2 c2)<|skipE<|bN<|tN<|rE<|pu1<|sAdd (k:Int) 1<|pu1<|nT<|⟨k+1,od,alA,b2,om⟩
end Go.Proofs.YtdingplbadblpaaGreat

namespace Go.Proofs.YtdingplbadblpaaGreat
open Go Go.E Go.Proofs.Tryz
set_option linter.all false
set_option maxRecDepth 100000
set_option maxHeartbeats 2000000
variable {W w:World} {H:Chunk} {F:List Chunk}
def numS (k:Nat) (z:Int):Prop:=-4611686018427387904-(k:Int)<=z/\z<=4611686018427387904+(k:Int)
theorem numS_mono {k m:Nat} {z:Int} (h:numS k z) (hm:k<=m):numS m z:=by unfold numS at*;omega
def planeS (k:Nat) (q:Plane):Prop:=(numS k q.w/\numS k q.h/\numS k q.max_)/\q.pix.l.length<=64+k/\∀z∈q.pix.l,numS k z
theorem base_mem {k m:Nat} {l:List Int} (h:∀z∈l,numS k z) (hm:k<=m):∀z∈([]:List Int)++l,numS m z:=by
  intro z hz
  rw [List.nil_append] at hz
  exact numS_mono (h z hz) hm
theorem tg_spoilPlane {p:Nat} {a:Option Addr} {n k:Nat} {i:Int} {xs:List Int} (hR:RdT Go.E.encI 1 [H] a n k xs) (hi:0<=i/\i<=n) (hS:Sat W w ([(p, .cells #[.slice a n k,I i] 85 (0,0))]::H::F)) (p0:Plane) (hp0:Plane.Ok [H] p0) (kk:Nat) (hkk:kk<=100) (hpS:planeS kk p0):
  Calls prog 49 #[Pt p 0, .agg (encPlane p0).toArray] w fun e w'=>∃(q:Plane) (G:Chunk),e= .returned (.agg (encPlane q).toArray)/\(Plane.Ok [G] q)/\(planeS (kk+1) q)/\∃i':Int,(0<=i'/\i'<=n)/\Sat W w' ([(p, .cells #[.slice a n k,I i'] 85 (0,0))]::G::H::F):=by
 have hl_p0_pix:=hp0.pix.le;have hn_p0_pix:=hp0.pix.len
 have hle:=hR.le
 obtain ⟨⟨hpw,hph,hpm⟩,hp2,hp3⟩:=hpS;unfold numS at hpw hph hpm
 refine callsA 67 func49 rfl<|sR<|sBox hS (.agg (encPlane p0).toArray) (encPlane p0).toArray fun e0 _ g1=>sAlloc g1 zeroValue87 fun r0 _ h1=>zS<|sBS h1 #[] runUnderlying22 sizeOf3 zeroValue3 fun i1 _ x0=>pu1<|sL x0 2 3 (.slice p0.pix.a p0.pix.n p0.pix.k) (isAgg22 _)<|sApp (nb:=8) x0 (OwnT.blk (enc:=Go.E.encI) (sz:=1) (b:=i1) (c:=#[]) (E:=3) (xs:=[]) fR 0 rfl rfl rfl om) 0 (hp0.pix.up 4 rfl) underlying22 (i:=Tryz.t3) kr fR fun a0 b0 f0 _ d0 k1=>pu1 ?_
 refine tW k1 2 3 (.slice a0 (0+p0.pix.n) b0) sizeOf22 fun _ l1=>nT<|cutA (γ:=Plane×Chunk×Int) (fun ⟨q,G1,itc⟩=>[(3,Pt e0 0),(4,Pt r0 0)]) (fun ⟨q,G1,itc⟩ w=>Sat W w ([(p, .cells #[.slice a n k,I itc] 85 (0,0))]::[(e0, .cells (encPlane q).toArray 87 (0,0))]::[(r0, .cells #[I 0,I 0,I 0,nS] 87 (0,0))]::G1::H::F)/\(0<=itc/\itc<=n)/\Plane.Ok [G1] q/\planeS (kk+1) q) ?_ ?_
 rotate_left
 ·rintro ⟨q,G1,itc⟩ ρ _ ⟨y0,hitc,hqok,hqS⟩
  exact sR<|lA y0 1 0 4 (isAgg87 _) (sizeOf87 _)<|sT y0 2 0 (.agg (encPlane q).toArray) (encPlane q) (encPlane q).toArray sizeOf87 fun _ z0=>zE<|retN (vs:=[.agg (encPlane q).toArray]) rfl (.cons (.cell _ _ _ _ kr (lvA z0 2 0 (encPlane q) (isAgg87 _) (sizeOf87 _) rfl rfl rfl)) .nil)<|⟨q,G1,rfl,hqok,hqS,_,om,(z0.drops [1,1])⟩
 refine sR<|pu1 ?_
 have n1:=(l1.pick 3 rfl)
 refine cX call13 (tape_next (RdT.flat (hR.up 3 (by rfl))) om n1.flat1 6 om) ?_
 rintro _ _ ⟨k0,rfl,_,l0,_,o1⟩
 have c0:=o1.unflat1
 refine nT<|blockE<|sR<|pu2<|nT<|cE k0 0 (fun q1=>?_) (fun q1=>?_)
 ·refine rE<|pu2<|sL c0 3 0 (I p0.w) (isAgg3 _)<|sAdd p0.w 1<|sBS c0 #[I 0,I (p0.w+1),I (-1),I 129] runUnderlying22 sizeOf3 zeroValue3 fun _ _ r1=>?_
  have s1:=(r1.pick 1 rfl)
  refine cX call38 (tape_pick (RdT.flat (hR.up 4 (by rfl))) om s1.flat1 (RdT.flat (RdT.blk (enc:=Go.E.encI) (sz:=1) (xs:=[0,(p0.w+1),-1,129]) (fun _=>(by rfl)) 4 0 rfl rfl rfl om)) om om) ?_
  rintro _ _ ⟨i0,rfl,t1,u1,_,v1⟩
  have w1:=v1.unflat1
  have v4:(i0:Int)=0\/(i0:Int)=(p0.w+1)\/(i0:Int)=(-1)\/(i0:Int)=129:=by simpa using t1
  refine pu1<|tW w1 4 0 (I i0) sizeOf3 fun _ x1=>nB ?_
  exact ⟨((⟨i0,p0.h,p0.max_,⟨a0,(0+p0.pix.n),b0,([]++p0.pix.l)⟩⟩:Plane),f0,u1),alA,((x1.picks [3,4,2]).dropAt 3 rfl),om,⟨(d0.rdAt (cs:=[f0]) 0 rfl)⟩,⟨⟨by unfold numS;dsimp only;omega,by unfold numS;dsimp only;omega,by unfold numS;dsimp only;omega⟩,⟨by simp;omega,(base_mem hp3 om)⟩⟩⟩
 refine sR<|pu2<|nT<|cE k0 1 (fun z1=>?_) (fun z1=>?_)
 ·refine rE<|pu2<|sL c0 3 1 (I p0.h) (isAgg3 _)<|sAdd p0.h 1<|sBS c0 #[I 0,I (p0.h+1),I 4611686018427387904] runUnderlying22 sizeOf3 zeroValue3 fun _ _ a2=>?_
  have b2:=(a2.pick 1 rfl)
  refine cX call38 (tape_pick (RdT.flat (hR.up 4 (by rfl))) om b2.flat1 (RdT.flat (RdT.blk (enc:=Go.E.encI) (sz:=1) (xs:=[0,(p0.h+1),4611686018427387904]) (fun _=>(by rfl)) 3 0 rfl rfl rfl om)) om om) ?_
  rintro _ _ ⟨m0,rfl,c2,d2,_,e2⟩
  have f2:=e2.unflat1
  have b5:(m0:Int)=0\/(m0:Int)=(p0.h+1)\/(m0:Int)=4611686018427387904:=by simpa using c2
  refine pu1<|tW f2 4 1 (I m0) sizeOf3 fun _ g2=>nB ?_
  exact ⟨((⟨p0.w,m0,p0.max_,⟨a0,(0+p0.pix.n),b0,([]++p0.pix.l)⟩⟩:Plane),f0,d2),alA,((g2.picks [3,4,2]).dropAt 3 rfl),om,⟨(d0.rdAt (cs:=[f0]) 0 rfl)⟩,⟨⟨by unfold numS;dsimp only;omega,by unfold numS;dsimp only;omega,by unfold numS;dsimp only;omega⟩,⟨by simp;omega,(base_mem hp3 om)⟩⟩⟩
 refine sR<|pu2<|nT<|cE k0 2 (fun i2=>?_) (fun i2=>?_)
 ·refine rE<|pu1<|sBS c0 #[I 0,I 4294967297,I (-1),I 3] runUnderlying22 sizeOf3 zeroValue3 fun _ _ j2=>?_
  have k2:=(j2.pick 1 rfl)
  refine cX call38 (tape_pick (RdT.flat (hR.up 4 (by rfl))) om k2.flat1 (RdT.flat (RdT.blk (enc:=Go.E.encI) (sz:=1) (xs:=[0,4294967297,-1,3]) (fun _=>(by rfl)) 4 0 rfl rfl rfl om)) om om) ?_
  rintro _ _ ⟨j0,rfl,l2,m2,_,n2⟩
  have o2:=n2.unflat1
  have h5:(j0:Int)=0\/(j0:Int)=4294967297\/(j0:Int)=(-1)\/(j0:Int)=3:=by simpa using l2
  refine pu1<|tW o2 4 2 (I j0) sizeOf3 fun _ q2=>nB ?_
  exact ⟨((⟨p0.w,p0.h,j0,⟨a0,(0+p0.pix.n),b0,([]++p0.pix.l)⟩⟩:Plane),f0,m2),alA,((q2.picks [3,4,2]).dropAt 3 rfl),om,⟨(d0.rdAt (cs:=[f0]) 0 rfl)⟩,⟨⟨by unfold numS;dsimp only;omega,by unfold numS;dsimp only;omega,by unfold numS;dsimp only;omega⟩,⟨by simp;omega,(base_mem hp3 om)⟩⟩⟩
 refine sR<|pu2<|nT<|cE k0 3 (fun s2=>?_) (fun s2=>?_)
 ·refine rE<|pu1<|sL c0 3 3 (.slice a0 (0+p0.pix.n) b0) (isAgg22 _)<|sBS c0 #[I 0] runUnderlying22 sizeOf3 zeroValue3 fun _ _ t2=>sApp (nb:=8) t2 d0 2 (RdT.blk (enc:=Go.E.encI) (sz:=1) (xs:=[0]) fR 1 0 rfl rfl rfl om) underlying22 (i:=Tryz.t3) kr fR fun a1 b1 c1 _ u2 v2=>pu1<|tW v2 4 3 (.slice a1 ((0+p0.pix.n)+1) b1) sizeOf22 fun _ w2=>nB ?_
  exact ⟨((⟨p0.w,p0.h,p0.max_,⟨a1,((0+p0.pix.n)+1),b1,(([]++p0.pix.l)++[0])⟩⟩:Plane),c1,l0),alA,((w2.picks [3,4,3]).dropAt 3 rfl),om,⟨(u2.rdAt (cs:=[c1]) 0 rfl)⟩,⟨⟨by unfold numS;dsimp only;omega,by unfold numS;dsimp only;omega,by unfold numS;dsimp only;omega⟩,⟨by simp;omega,mem_snoc (base_mem hp3 om) (by unfold numS;omega)⟩⟩⟩
 refine sR<|pu2<|nT<|cE k0 4 (fun y2=>?_) (fun y2=>?_)
 rotate_left
 ·refine rE<|pu1<|tW c0 3 3 (nS) sizeOf22 fun _ z2=>nB ?_
  have a3:=((z2.picks [3,1]).dropAt 2 rfl)
  have b3:Sat W _ ([(p, .cells #[.slice a n k,I l0] 85 (0,0))]::[(e0, .cells #[I p0.w,I p0.h,I p0.max_,nS] 87 (0,0))]::[(r0, .cells #[I 0,I 0,I 0,nS] 87 (0,0))]::[]::H::F):=Sat.perm (show Sat W _ ([(p, .cells #[.slice a n k,I l0] 85 (0,0))]::[(e0, .cells #[I p0.w,I p0.h,I p0.max_,nS] 87 (0,0))]::[(r0, .cells #[I 0,I 0,I 0,nS] 87 (0,0))]::H::F) from a3) (by simp [Value.cells])
  exact ⟨((⟨p0.w,p0.h,p0.max_,⟨none,0,0,[]⟩⟩:Plane),[],l0),alA,b3,om,⟨RdT.nil (enc:=Go.E.encI) (sz:=1) fR _⟩,⟨⟨by unfold numS;dsimp only;omega,by unfold numS;dsimp only;omega,by unfold numS;dsimp only;omega⟩,⟨by simp,fun z hz=>by cases hz⟩⟩⟩
 refine sR<|pu1<|sL c0 3 3 (.slice a0 (0+p0.pix.n) b0) (isAgg22 _)<|pu2<|nT<|cD ((((0+p0.pix.n):Nat):Int)>0) (fun c3=>?_) (fun c3=>?_)
 rotate_left
 ·refine skipE<|bN<|tN ?_
  exact ⟨((⟨p0.w,p0.h,p0.max_,⟨a0,(0+p0.pix.n),b0,([]++p0.pix.l)⟩⟩:Plane),f0,l0),alA,(c0.picks [2,3,2]),om,⟨(d0.rdAt (cs:=[f0]) 0 rfl)⟩,⟨⟨by unfold numS;dsimp only;omega,by unfold numS;dsimp only;omega,by unfold numS;dsimp only;omega⟩,⟨by simp;omega,(base_mem hp3 om)⟩⟩⟩
 refine drawP [6,13,14,16] [(1,⟨e0,3,none⟩, .slice a0 (0+p0.pix.n) b0),(4,⟨e0,3,none⟩, .slice a0 (0+p0.pix.n) b0),(9,⟨e0,2,none⟩,I p0.max_),(12,⟨e0,2,none⟩,I p0.max_)] (Plan.sts [0,2,3,7,8,11]<|Plan.sts [1]<|Plan.sts [4]<|Plan.sts [5]<|Plan.sts [9]<|Plan.sts [10]<|Plan.sts [12]<| .fk 6 13 (.ef 13<| .ef 14<|Plan.sts [15]<| .ef 16<| .fin) (.ef 6<| .ef 14<|Plan.sts [15]<| .ef 16<| .fin)) rfl kr ⟨cI c0 3,cI c0 3,cI c0 3,cI c0 3,trivial⟩ ?_
 have d1:=c0.drew
 refine qU [0,2,3,7,8,11]<|qLd (.slice a0 (0+p0.pix.n) b0) 0 isAgg22<|qLd (.slice a0 (0+p0.pix.n) b0) 1 isAgg22<|qU [5]<|qLd (I p0.max_) 2 isAgg3<|qAdd p0.max_ 1<|qLd (I p0.max_) 3 isAgg3<|qF ?_ ?_
 ·refine qO rfl<|cX call13 (tape_next (RdT.flat (hR.up 3 (by rfl))) om d1.flat1 (((0+p0.pix.n):Nat):Int) om) ?_
  rintro _ _ ⟨n0,rfl,_,_,_,e3⟩
  have o0:=e3.unflat1
  refine nilO ⟨⟨cI o0 3,cI o0 3,cI o0 3,cI o0 3,trivial⟩,?_⟩
  refine qO rfl<|sBS o0 #[I (-1),I (p0.max_+1),I p0.max_] runUnderlying22 sizeOf3 zeroValue3 fun _ _ s0=>nilO ⟨⟨cI s0 4,cI s0 4,cI s0 4,dI,trivial⟩,?_⟩
  refine qO rfl ?_
  have f3:=(s0.pick 1 rfl)
  refine cX call38 (tape_pick (RdT.flat (hR.up 4 (by rfl))) om f3.flat1 (RdT.flat (RdT.blk (enc:=Go.E.encI) (sz:=1) (xs:=[-1,(p0.max_+1),p0.max_]) (fun _=>(by rfl)) 3 0 rfl rfl rfl om)) om om) ?_
  rintro _ _ ⟨g0,rfl,g3,h3,_,i3⟩
  have t0:=i3.unflat1
  have w5:(g0:Int)=(-1)\/(g0:Int)=(p0.max_+1)\/(g0:Int)=p0.max_:=by simpa using g3
  refine nilO ⟨⟨cI t0 4,cI t0 4,cI t0 4,dI,trivial⟩,?_⟩
  obtain ⟨j3,k3,l3,m3,x5,n3,o3⟩:=OwnT.elem d0 n0
  refine qY (.pointer (some ⟨k3,l3+(n0).toNat*1,none⟩)) rfl (fun w _=>Y_idx (a:=a0) (i:=n0) (len:=(0+p0.pix.n)) (cap:=b0) rfl runUnderlying22 sizeOf3 kr kr n3)<|qO rfl<|sStF t0 d0 o3 2 (n0).toNat 0 j3 g0 m3 (I g0) [I g0] sizeOf3 fun _ e1 p3 q3=>nilO ⟨dA,?_⟩
  refine qN<|bN<|tN ?_
  exact ⟨((⟨p0.w,p0.h,p0.max_,⟨a0,(0+p0.pix.n),b0,(([]++p0.pix.l).set ((n0).toNat) g0)⟩⟩:Plane),e1,h3),alA,((q3.picks [3,4,2]).dropAt 3 rfl),om,⟨(p3.rdAt (cs:=[e1]) 0 rfl)⟩,⟨⟨by unfold numS;dsimp only;omega,by unfold numS;dsimp only;omega,by unfold numS;dsimp only;omega⟩,⟨by simp;omega,mem_set (base_mem hp3 om) (by unfold numS;omega)⟩⟩⟩
 refine qO rfl<|sBS d1 #[I (-1),I (p0.max_+1),I p0.max_] runUnderlying22 sizeOf3 zeroValue3 fun _ _ u0=>nilO ⟨⟨cI u0 4,cI u0 4,cI u0 4,dI,trivial⟩,?_⟩
 refine qO rfl ?_
 have s3:=(u0.pick 1 rfl)
 refine cX call13 (tape_next (RdT.flat (hR.up 4 (by rfl))) om s3.flat1 (((0+p0.pix.n):Nat):Int) om) ?_
 rintro _ _ ⟨q0,rfl,_,_,_,u3⟩
 have v0:=u3.unflat1
 refine nilO ⟨⟨cI v0 4,cI v0 4,cI v0 4,dI,trivial⟩,?_⟩
 refine qO rfl<|cX call38 (tape_pick (RdT.flat (hR.up 4 (by rfl))) om v0.flat1 (RdT.flat (RdT.blk (enc:=Go.E.encI) (sz:=1) (xs:=[-1,(p0.max_+1),p0.max_]) (fun _=>(by rfl)) 3 0 rfl rfl rfl om)) om om) ?_
 rintro _ _ ⟨h0,rfl,v3,w3,_,x3⟩
 have w0:=x3.unflat1
 have h6:(h0:Int)=(-1)\/(h0:Int)=(p0.max_+1)\/(h0:Int)=p0.max_:=by simpa using v3
 refine nilO ⟨⟨cI w0 4,cI w0 4,cI w0 4,dI,trivial⟩,?_⟩
 obtain ⟨y3,z3,a4,b4,i6,c4,d4⟩:=OwnT.elem d0 q0
 refine qY (.pointer (some ⟨z3,a4+(q0).toNat*1,none⟩)) rfl (fun w _=>Y_idx (a:=a0) (i:=q0) (len:=(0+p0.pix.n)) (cap:=b0) rfl runUnderlying22 sizeOf3 kr kr c4)<|qO rfl<|sStF w0 d0 d4 2 (q0).toNat 0 y3 h0 b4 (I h0) [I h0] sizeOf3 fun _ f1 e4 f4=>nilO ⟨dA,?_⟩
 refine qN<|bN<|tN ?_
 exact ⟨((⟨p0.w,p0.h,p0.max_,⟨a0,(0+p0.pix.n),b0,(([]++p0.pix.l).set ((q0).toNat) h0)⟩⟩:Plane),f1,w3),alA,((f4.picks [3,4,2]).dropAt 3 rfl),om,⟨(e4.rdAt (cs:=[f1]) 0 rfl)⟩,⟨⟨by unfold numS;dsimp only;omega,by unfold numS;dsimp only;omega,by unfold numS;dsimp only;omega⟩,⟨by simp;omega,mem_set (base_mem hp3 om) (by unfold numS;omega)⟩⟩⟩
theorem Stage.Ok.m {cs cs':List Chunk} {x:Stage} (h:Stage.Ok cs x) (hm:∀p∈cs.flatten,p∈cs'.flatten:=by intro p hp;simp at hp⊢;simp [hp]):Stage.Ok cs' x:=h.of_mem hm
theorem up1 {α:Type} {l:List α} {m k:Nat} {P:Prop} (h:l.length<=m+k/\P):l.length<=m+(k+1)/\P:=⟨by omega,h.2⟩
theorem base_any {α:Type} {P:α->Prop} {l:List α} (h:∀z∈l,P z):∀z∈([]:List α)++l,P z:=by
  intro z hz
  rw [List.nil_append] at hz
  exact h z hz
theorem tg_spoilStage {J:Chunk} {p:Nat} {a:Option Addr} {n k:Nat} {i:Int} {xs:List Int} (hR:RdT Go.E.encI 1 [H] a n k xs) (hi:0<=i/\i<=n) (hS:Sat W w ([(p, .cells #[.slice a n k,I i] 85 (0,0))]::J::H::F)) (s0:Stage) (hs0:Stage.Ok [J] s0) (kk:Nat) (hkk:kk<=100) (hsB:stageB kk s0):
  Calls prog 25 #[Pt p 0, .agg (encStage s0).toArray] w fun e w'=>∃(q:Stage) (G:Chunk),e= .returned (.agg (encStage q).toArray)/\(Stage.Ok [G++J] q)/\(stageB (kk+1) q)/\∃i':Int,(0<=i'/\i'<=n)/\Sat W w' ([(p, .cells #[.slice a n k,I i'] 85 (0,0))]::G::J::H::F):=by
 have hl_s0_weights:=hs0.weights.le;have hn_s0_weights:=hs0.weights.len
 have hl_s0_row:=hs0.row.le;have hn_s0_row:=hs0.row.len
 have hl_s0_col:=hs0.col.le;have hn_s0_col:=hs0.col.len
 have hl_s0_x:=hs0.x.le;have hn_s0_x:=hs0.x.len
 have hl_s0_y:=hs0.y.le;have hn_s0_y:=hs0.y.len
 have hl_s0_ops:=hs0.ops.le;have hn_s0_ops:=hs0.ops.len
 have hle:=hR.le
 obtain ⟨hi0,hi1,hi2,hi3,hi4,hi5,hi6,hi7,hi8,hi9,hi10⟩:=hsB.1;unfold numB at hi0 hi1 hi2 hi3 hi4 hi5 hi6 hi7 hi8 hi9 hi10;have hb_weights:=hsB.2.1.1;have hb_row:=hsB.2.2.1.1;have hb_col:=hsB.2.2.2.1.1;have hb_x:=hsB.2.2.2.2.1.1;have hb_y:=hsB.2.2.2.2.2.1.1;have hb_ops:=hsB.2.2.2.2.2.2.1
 refine callsA 137 func25 rfl ?_
 refine sR ?_
 refine sBox hS (.agg (encStage s0).toArray) (encStage s0).toArray ?_
 intro w0 _ o2
 refine sAlloc o2 zeroValue38 ?_
 intro l1 _ q2
 refine nT ?_
 refine cutA (γ:=Stage×Chunk×Int) (fun ⟨q,G1,itc⟩=>[(3,Pt w0 0),(4,Pt l1 0)]) (fun ⟨q,G1,itc⟩ w=>Sat W w (G1::[(p, .cells #[.slice a n k,I itc] 85 (0,0))]::[(w0, .cells (encStage q).toArray 38 (0,0))]::[(l1, .cells #[I 0,I 0,I 0, .bool false,I 0,I 0,I 0,I 0,nS,nS,nS,I 0,I 0,nS,nS,I 0,nS,I 0] 38 (0,0))]::J::H::F)/\(0<=itc/\itc<=n)/\Stage.Ok [G1++J] q/\stageB (kk+1) q) ?_ ?_
 rotate_left
 ·rintro ⟨q,G1,itc⟩ ρ _ ⟨m1,hitc,hqok,hqS⟩
  refine sR ?_
  refine lA m1 2 0 18 (isAgg38 _) (sizeOf38 _) ?_
  refine sT m1 3 0 (.agg (encStage q).toArray) (encStage q) (encStage q).toArray sizeOf38 ?_
  intro _ n1
  refine zE<|retN (vs:=[.agg (encStage q).toArray]) rfl (.cons (.cell _ _ _ _ kr (lvA n1 3 0 (encStage q) (isAgg38 _) (sizeOf38 _) rfl rfl rfl)) .nil) ?_
  exact ⟨q,G1,rfl,hqok,hqS,_,om,((n1.pick 1 rfl).drops [2,2])⟩
 refine sR<|pu1 ?_
 have s2:=(q2.pick 2 rfl)
 refine cX call13 (tape_next (RdT.flat (hR.up 3 (by rfl))) om s2.flat1 14 om) ?_
 rintro _ _ ⟨b0,rfl,_,o1,_,t2⟩
 have a0:=t2.unflat1
 refine nT<|blockE<|sR<|pu2<|nT ?_
 refine cE b0 0 (fun u2=>?_) (fun u2=>?_)
 ·refine rE<|pu1 ?_
  refine cX call13 (tape_next (RdT.flat (hR.up 3 (by rfl))) om a0.flat1 8 om) ?_
  rintro _ _ ⟨q1,rfl,_,v2,_,w2⟩
  have x2:=w2.unflat1
  refine pu1 ?_
  refine tW x2 2 0 (I q1) sizeOf3 ?_
  intro _ y2
  refine nB ?_
  have z2:=(y2.picks [2,1])
  exact ⟨(({s0 with kind:=q1}:Stage),[],v2),alA,(Sat.nilc z2),om,{hs0.m with},⟨(by unfold numB;dsimp only;omega),hsB.2.1,hsB.2.2.1,hsB.2.2.2.1,up1 hsB.2.2.2.2.1,up1 hsB.2.2.2.2.2.1,up1 hsB.2.2.2.2.2.2⟩⟩
 refine sR<|pu2<|nT ?_
 refine cE b0 1 (fun b3=>?_) (fun b3=>?_)
 ·refine rE<|pu1 ?_
  refine sBS a0 #[I (-1),I 0,I 1,I 2,I 15,I 16] runUnderlying22 sizeOf3 zeroValue3 ?_
  intro _ _ c3
  have d3:=(c3.pick 1 rfl)
  refine cX call38 (tape_pick (RdT.flat (hR.up 4 (by rfl))) om d3.flat1 (RdT.flat (RdT.blk (enc:=Go.E.encI) (sz:=1) (xs:=[-1,0,1,2,15,16]) (fun _=>(by rfl)) 6 0 rfl rfl rfl om)) om om) ?_
  rintro _ _ ⟨e0,rfl,e3,f3,_,g3⟩
  have h3:=g3.unflat1
  have ra:(e0:Int)=(-1)\/(e0:Int)=0\/(e0:Int)=1\/(e0:Int)=2\/(e0:Int)=15\/(e0:Int)=16:=by simpa using e3
  refine pu1 ?_
  refine tW h3 3 1 (I e0) sizeOf3 ?_
  intro _ i3
  refine nB ?_
  have j3:=((i3.picks [3,1]).dropAt 2 rfl)
  exact ⟨(({s0 with a:=e0}:Stage),[],f3),alA,(Sat.nilc j3),om,{hs0.m with},⟨(by unfold numB;dsimp only;omega),hsB.2.1,hsB.2.2.1,hsB.2.2.2.1,up1 hsB.2.2.2.2.1,up1 hsB.2.2.2.2.2.1,up1 hsB.2.2.2.2.2.2⟩⟩
 refine sR<|pu2<|nT ?_
 refine cE b0 2 (fun l3=>?_) (fun l3=>?_)
 ·refine rE<|pu1 ?_
  refine sBS a0 #[I (-2),I (-1),I 0,I 1,I 16] runUnderlying22 sizeOf3 zeroValue3 ?_
  intro _ _ m3
  have n3:=(m3.pick 1 rfl)
  refine cX call38 (tape_pick (RdT.flat (hR.up 4 (by rfl))) om n3.flat1 (RdT.flat (RdT.blk (enc:=Go.E.encI) (sz:=1) (xs:=[-2,-1,0,1,16]) (fun _=>(by rfl)) 5 0 rfl rfl rfl om)) om om) ?_
  rintro _ _ ⟨f0,rfl,o3,p3,_,q3⟩
  have r3:=q3.unflat1
  have xa:(f0:Int)=(-2)\/(f0:Int)=(-1)\/(f0:Int)=0\/(f0:Int)=1\/(f0:Int)=16:=by simpa using o3
  refine pu1 ?_
  refine tW r3 3 2 (I f0) sizeOf3 ?_
  intro _ s3
  refine nB ?_
  have u3:=((s3.picks [3,1]).dropAt 2 rfl)
  exact ⟨(({s0 with b:=f0}:Stage),[],p3),alA,(Sat.nilc u3),om,{hs0.m with},⟨(by unfold numB;dsimp only;omega),hsB.2.1,hsB.2.2.1,hsB.2.2.2.1,up1 hsB.2.2.2.2.1,up1 hsB.2.2.2.2.2.1,up1 hsB.2.2.2.2.2.2⟩⟩
 refine sR<|pu2<|nT ?_
 refine cE b0 3 (fun w3=>?_) (fun w3=>?_)
 ·refine rE<|pu1 ?_
  refine cX call13 (tape_next (RdT.flat (hR.up 3 (by rfl))) om a0.flat1 6 om) ?_
  rintro _ _ ⟨y0,rfl,_,_,_,x3⟩
  have y3:=x3.unflat1
  refine sSub y0 1 ?_
  refine pu1 ?_
  refine sBS y3 #[I 0,I 5,I (-1),I 70000] runUnderlying22 sizeOf3 zeroValue3 ?_
  intro _ _ z3
  have a4:=(z3.pick 1 rfl)
  refine cX call38 (tape_pick (RdT.flat (hR.up 4 (by rfl))) om a4.flat1 (RdT.flat (RdT.blk (enc:=Go.E.encI) (sz:=1) (xs:=[0,5,-1,70000]) (fun _=>(by rfl)) 4 0 rfl rfl rfl om)) om om) ?_
  rintro _ _ ⟨l0,rfl,b4,c4,_,d4⟩
  have e4:=d4.unflat1
  have hb:(l0:Int)=0\/(l0:Int)=5\/(l0:Int)=(-1)\/(l0:Int)=70000:=by simpa using b4
  refine pu2 ?_
  refine tW e4 3 4 (.agg #[I (y0-1),I l0]) sizeOf34 ?_
  intro _ f4
  refine nB ?_
  have g4:=((f4.picks [3,1]).dropAt 2 rfl)
  exact ⟨(({s0 with edgePolicy:=(y0-1),edgeFill:=l0}:Stage),[],c4),alA,(Sat.nilc g4),om,{hs0.m with},⟨(by unfold numB;dsimp only;omega),hsB.2.1,hsB.2.2.1,hsB.2.2.2.1,up1 hsB.2.2.2.2.1,up1 hsB.2.2.2.2.2.1,up1 hsB.2.2.2.2.2.2⟩⟩
 refine sR<|pu2<|nT ?_
 refine cE b0 4 (fun i4=>?_) (fun i4=>?_)
 ·refine rE<|pu1 ?_
  refine sBS a0 #[I 0,I 1,I 3,I 10,I 4611686018427387904] runUnderlying22 sizeOf3 zeroValue3 ?_
  intro _ _ j4
  have k4:=(j4.pick 1 rfl)
  refine cX call38 (tape_pick (RdT.flat (hR.up 4 (by rfl))) om k4.flat1 (RdT.flat (RdT.blk (enc:=Go.E.encI) (sz:=1) (xs:=[0,1,3,10,4611686018427387904]) (fun _=>(by rfl)) 5 0 rfl rfl rfl om)) om om) ?_
  rintro _ _ ⟨g0,rfl,l4,m4,_,n4⟩
  have o4:=n4.unflat1
  have ob:(g0:Int)=0\/(g0:Int)=1\/(g0:Int)=3\/(g0:Int)=10\/(g0:Int)=4611686018427387904:=by simpa using l4
  refine pu1 ?_
  refine tW o4 3 6 (I g0) sizeOf3 ?_
  intro _ p4
  refine nB ?_
  have q4:=((p4.picks [3,1]).dropAt 2 rfl)
  exact ⟨(({s0 with kW:=g0}:Stage),[],m4),alA,(Sat.nilc q4),om,{hs0.m with},⟨(by unfold numB;dsimp only;omega),hsB.2.1,hsB.2.2.1,hsB.2.2.2.1,up1 hsB.2.2.2.2.1,up1 hsB.2.2.2.2.2.1,up1 hsB.2.2.2.2.2.2⟩⟩
 refine sR<|pu2<|nT ?_
 refine cE b0 5 (fun s4=>?_) (fun s4=>?_)
 ·refine rE<|pu2 ?_
  refine cX call13 (tape_next (RdT.flat (hR.up 3 (by rfl))) om a0.flat1 10 om) ?_
  rintro _ _ ⟨t4,rfl,_,_,_,u4⟩
  refine cX call62 (tg_weights (RdT.flat (hR.up 3 (by rfl))) om (Sat.flat1 (Sat.unflat1 u4)) t4 om) ?_
  rintro _ _ ⟨r1,s1,t1,w4,x4,rfl,z0,u1,y4,_,z4⟩
  have a5:=z4.unflat2
  have hn_zs_115:=z0.len;have hl_zs_115:=z0.le
  refine pu1 ?_
  refine tW a5 3 8 (.slice r1 s1 t1) sizeOf22 ?_
  intro _ b5
  refine nB ?_
  exact ⟨(({s0 with weights:=⟨r1,s1,t1,w4⟩}:Stage),x4,y4),alA,(b5.picks [3,1,2]),om,{hs0.m with weights:=z0.of_mem mS},⟨(by unfold numB;dsimp only;omega),⟨by have h:=u1.1;dsimp only;omega,u1.2⟩,hsB.2.2.1,hsB.2.2.2.1,up1 hsB.2.2.2.2.1,up1 hsB.2.2.2.2.2.1,up1 hsB.2.2.2.2.2.2⟩⟩
 refine sR<|pu2<|nT ?_
 refine cE b0 6 (fun d5=>?_) (fun d5=>?_)
 ·refine rE<|pu2 ?_
  refine cX call13 (tape_next (RdT.flat (hR.up 3 (by rfl))) om a0.flat1 11 om) ?_
  rintro _ _ ⟨e5,rfl,_,_,_,f5⟩
  refine cX call62 (tg_weights (RdT.flat (hR.up 3 (by rfl))) om (Sat.flat1 (Sat.unflat1 f5)) e5 om) ?_
  rintro _ _ ⟨v1,w1,x1,h5,i5,rfl,a1,y1,j5,_,k5⟩
  have l5:=k5.unflat2
  have hn_zs_138:=a1.len;have hl_zs_138:=a1.le
  refine pu1 ?_
  refine tW l5 3 9 (.slice v1 w1 x1) sizeOf22 ?_
  intro _ m5
  refine nB ?_
  exact ⟨(({s0 with row:=⟨v1,w1,x1,h5⟩}:Stage),i5,j5),alA,(m5.picks [3,1,2]),om,{hs0.m with row:=a1.of_mem mS},⟨(by unfold numB;dsimp only;omega),hsB.2.1,⟨by have h:=y1.1;dsimp only;omega,y1.2⟩,hsB.2.2.2.1,up1 hsB.2.2.2.2.1,up1 hsB.2.2.2.2.2.1,up1 hsB.2.2.2.2.2.2⟩⟩
 refine sR<|pu2<|nT ?_
 refine cE b0 7 (fun o5=>?_) (fun o5=>?_)
 ·refine rE<|pu1 ?_
  refine sBS a0 #[I 0,I (-1),I 25,I 24] runUnderlying22 sizeOf3 zeroValue3 ?_
  intro _ _ p5
  have q5:=(p5.pick 1 rfl)
  refine cX call38 (tape_pick (RdT.flat (hR.up 4 (by rfl))) om q5.flat1 (RdT.flat (RdT.blk (enc:=Go.E.encI) (sz:=1) (xs:=[0,-1,25,24]) (fun _=>(by rfl)) 4 0 rfl rfl rfl om)) om om) ?_
  rintro _ _ ⟨m0,rfl,r5,_,_,s5⟩
  have t5:=s5.unflat1
  have jc:(m0:Int)=0\/(m0:Int)=(-1)\/(m0:Int)=25\/(m0:Int)=24:=by simpa using r5
  refine pu1 ?_
  refine sBS t5 #[I 0,I 25,I 3] runUnderlying22 sizeOf3 zeroValue3 ?_
  intro _ _ u5
  have v5:=(u5.pick 1 rfl)
  refine cX call38 (tape_pick (RdT.flat (hR.up 5 (by rfl))) om v5.flat1 (RdT.flat (RdT.blk (enc:=Go.E.encI) (sz:=1) (xs:=[0,25,3]) (fun _=>(by rfl)) 3 0 rfl rfl rfl om)) om om) ?_
  rintro _ _ ⟨p0,rfl,w5,x5,_,y5⟩
  have z5:=y5.unflat1
  have oc:(p0:Int)=0\/(p0:Int)=25\/(p0:Int)=3:=by simpa using w5
  refine pu1 ?_
  refine tW z5 4 11 (I m0) sizeOf3 ?_
  intro _ a6
  refine pu1 ?_
  refine tW a6 4 12 (I p0) sizeOf3 ?_
  intro _ b6
  refine nB ?_
  have c6:=((b6.picks [4,1]).drops [2,2])
  exact ⟨(({s0 with shift:=m0,shift2:=p0}:Stage),[],x5),alA,(Sat.nilc c6),om,{hs0.m with},⟨(by unfold numB;dsimp only;omega),hsB.2.1,hsB.2.2.1,hsB.2.2.2.1,up1 hsB.2.2.2.2.1,up1 hsB.2.2.2.2.2.1,up1 hsB.2.2.2.2.2.2⟩⟩
 refine sR<|pu2<|nT ?_
 refine cE b0 8 (fun e6=>?_) (fun e6=>?_)
 ·refine rE ?_
  refine sBS a0 #[] runUnderlying35 sizeOf123 zeroValue123 ?_
  intro f6 _ z1
  refine pu1 ?_
  refine sL z1 3 13 (.slice s0.x.a s0.x.n s0.x.k) (isAgg35 _) ?_
  refine sApp (nb:=32) z1 (OwnT.blk (enc:=encTap) (sz:=2) (b:=f6) (c:=#[]) (E:=123) (xs:=[]) fR 0 rfl rfl rfl om) 0 (hs0.x.up 4 rfl) underlying35 (i:=Tryz.t123) kr fR ?_
  intro _ _ _ _ h6 i6
  refine pu1 ?_
  refine sBS i6 #[I (-129),I 0,I 256,I 257] runUnderlying22 sizeOf3 zeroValue3 ?_
  intro _ _ j6
  have k6:=(j6.pick 2 rfl)
  refine cX call38 (tape_pick (RdT.flat (hR.up 5 (by rfl))) om k6.flat1 (RdT.flat (RdT.blk (enc:=Go.E.encI) (sz:=1) (xs:=[-129,0,256,257]) (fun _=>(by rfl)) 4 0 rfl rfl rfl om)) om om) ?_
  rintro _ _ ⟨h0,rfl,l6,_,_,m6⟩
  have n6:=m6.unflat1
  have bd:(h0:Int)=(-129)\/(h0:Int)=0\/(h0:Int)=256\/(h0:Int)=257:=by simpa using l6
  refine pu2 ?_
  refine sBS n6 #[I 0,I 1,I 8,I 9] runUnderlying22 sizeOf3 zeroValue3 ?_
  intro _ _ o6
  have p6:=(o6.pick 1 rfl)
  refine cX call38 (tape_pick (RdT.flat (hR.up 6 (by rfl))) om p6.flat1 (RdT.flat (RdT.blk (enc:=Go.E.encI) (sz:=1) (xs:=[0,1,8,9]) (fun _=>(by rfl)) 4 0 rfl rfl rfl om)) om om) ?_
  rintro _ _ ⟨q0,rfl,q6,_,_,r6⟩
  have s6:=r6.unflat1
  have hd:(q0:Int)=0\/(q0:Int)=1\/(q0:Int)=8\/(q0:Int)=9:=by simpa using q6
  refine cX call62 (tg_weights (RdT.flat (hR.up 6 (by rfl))) om s6.flat1 q0 om) ?_
  rintro _ _ ⟨b1,c1,d1,a2,t6,rfl,e1,b2,u6,_,v6⟩
  have w6:=v6.unflat2
  have hn_zs_219:=e1.len;have hl_zs_219:=e1.le
  refine pu1 ?_
  refine sBS w6 #[I h0, .slice b1 c1 d1] runUnderlying35 sizeOf123 zeroValue123 ?_
  intro _ _ x6
  refine sApp (nb:=32) x6 h6 5 (RdT.blk (enc:=encTap) (sz:=2) (xs:=[(⟨h0,⟨b1,c1,d1,a2⟩⟩:Tap)]) fR 1 0 rfl rfl rfl om) underlying35 (i:=Tryz.t123) kr fR ?_
  intro c2 d2 e2 _ y6 z6
  refine pu1 ?_
  refine tW z6 7 13 (.slice c2 ((0+s0.x.n)+1) d2) sizeOf35 ?_
  intro _ a7
  refine nB ?_
  have b7:=((a7.picks [7,2,3,6]).drops [4,4,4])
  exact ⟨(({s0 with x:=⟨c2,((0+s0.x.n)+1),d2,(([]++s0.x.l)++[(⟨h0,⟨b1,c1,d1,a2⟩⟩:Tap)])⟩}:Stage),(e2++t6),u6),alA,b7.merge2,om,{hs0.m with x:=(y6.rdAt (cs:=[e2]) 0 rfl).of_mem mS,xD:=(by
    intro z hz
    rcases List.mem_append.1 hz with h|h
    ·rw [List.nil_append] at h;exact (hs0.xD z h).of_mem mS
    ·simp only [List.mem_singleton] at h;rw [h];exact ⟨e1.of_mem mS⟩)},⟨(by unfold numB;dsimp only;omega),hsB.2.1,hsB.2.2.1,hsB.2.2.2.1,⟨by have h:=hsB.2.2.2.2.1.1;simp;omega,mem_snoc (base_any hsB.2.2.2.2.1.2) ⟨nb,by have h:=b2.1;dsimp only;omega,b2.2⟩⟩,up1 hsB.2.2.2.2.2.1,up1 hsB.2.2.2.2.2.2⟩⟩
 refine sR<|pu2<|nT ?_
 refine cE b0 9 (fun d7=>?_) (fun d7=>?_)
 ·refine rE<|pu1 ?_
  refine sBS a0 #[I 0,I 1,I 128,I 129] runUnderlying22 sizeOf3 zeroValue3 ?_
  intro _ _ e7
  have f7:=(e7.pick 1 rfl)
  refine cX call38 (tape_pick (RdT.flat (hR.up 4 (by rfl))) om f7.flat1 (RdT.flat (RdT.blk (enc:=Go.E.encI) (sz:=1) (xs:=[0,1,128,129]) (fun _=>(by rfl)) 4 0 rfl rfl rfl om)) om om) ?_
  rintro _ _ ⟨n0,rfl,g7,h7,_,i7⟩
  have j7:=i7.unflat1
  have ud:(n0:Int)=0\/(n0:Int)=1\/(n0:Int)=128\/(n0:Int)=129:=by simpa using g7
  refine pu1 ?_
  refine tW j7 3 15 (I n0) sizeOf3 ?_
  intro _ k7
  refine nB ?_
  have l7:=((k7.picks [3,1]).dropAt 2 rfl)
  exact ⟨(({s0 with bins:=n0}:Stage),[],h7),alA,(Sat.nilc l7),om,{hs0.m with},⟨(by unfold numB;dsimp only;omega),hsB.2.1,hsB.2.2.1,hsB.2.2.2.1,up1 hsB.2.2.2.2.1,up1 hsB.2.2.2.2.2.1,up1 hsB.2.2.2.2.2.2⟩⟩
 refine sR<|pu2<|nT ?_
 refine cE b0 10 (fun n7=>?_) (fun n7=>?_)
 ·refine rE ?_
  refine sBS a0 #[] runUnderlying36 sizeOf92 zeroValue92 ?_
  intro o7 _ f2
  refine pu1 ?_
  refine sL f2 3 16 (.slice s0.ops.a s0.ops.n s0.ops.k) (isAgg36 _) ?_
  refine sApp (nb:=16) f2 (OwnT.blk (enc:=encPOp) (sz:=2) (b:=o7) (c:=#[]) (E:=92) (xs:=[]) fR 0 rfl rfl rfl om) 0 (hs0.ops.up 4 rfl) underlying36 (i:=Tryz.t92) kr fR ?_
  intro _ _ _ _ q7 r7
  refine pu1 ?_
  have s7:=(r7.pick 1 rfl)
  refine cX call13 (tape_next (RdT.flat (hR.up 4 (by rfl))) om s7.flat1 14 om) ?_
  rintro _ _ ⟨x0,rfl,_,_,_,t7⟩
  have u7:=t7.unflat1
  refine sSub x0 1 ?_
  refine pu1 ?_
  refine sBS u7 #[I 0,I 1,I 25,I (-5)] runUnderlying22 sizeOf3 zeroValue3 ?_
  intro _ _ v7
  have w7:=(v7.pick 1 rfl)
  refine cX call38 (tape_pick (RdT.flat (hR.up 5 (by rfl))) om w7.flat1 (RdT.flat (RdT.blk (enc:=Go.E.encI) (sz:=1) (xs:=[0,1,25,-5]) (fun _=>(by rfl)) 4 0 rfl rfl rfl om)) om om) ?_
  rintro _ _ ⟨i0,rfl,x7,y7,_,z7⟩
  have a8:=z7.unflat1
  have je:(i0:Int)=0\/(i0:Int)=1\/(i0:Int)=25\/(i0:Int)=(-5):=by simpa using x7
  refine pu1 ?_
  refine sBS a8 #[I (x0-1),I i0] runUnderlying36 sizeOf92 zeroValue92 ?_
  intro _ _ b8
  refine sApp (nb:=16) b8 q7 3 (RdT.blk (enc:=encPOp) (sz:=2) (xs:=[(⟨(x0-1),i0⟩:POp)]) fR 1 0 rfl rfl rfl om) underlying36 (i:=Tryz.t92) kr fR ?_
  intro g2 h2 i2 _ c8 d8
  refine pu1 ?_
  refine tW d8 5 16 (.slice g2 ((0+s0.ops.n)+1) h2) sizeOf36 ?_
  intro _ e8
  refine nB ?_
  exact ⟨(({s0 with ops:=⟨g2,((0+s0.ops.n)+1),h2,(([]++s0.ops.l)++[(⟨(x0-1),i0⟩:POp)])⟩}:Stage),i2,y7),alA,((e8.picks [5,2,4]).drops [3,3]),om,{hs0.m with ops:=(c8.rdAt (cs:=[i2]) 0 rfl).of_mem mS},⟨(by unfold numB;dsimp only;omega),hsB.2.1,hsB.2.2.1,hsB.2.2.2.1,up1 hsB.2.2.2.2.1,up1 hsB.2.2.2.2.2.1,⟨by have h:=hsB.2.2.2.2.2.2.1;simp;omega,mem_snoc (base_any hsB.2.2.2.2.2.2.2) ⟨nb,nb⟩⟩⟩⟩
 refine sR<|pu2<|nT ?_
 refine cE b0 11 (fun g8=>?_) (fun g8=>?_)
 ·refine rE<|pu1 ?_
  refine sBS a0 #[I 0,I 1,I 4294967296,I 4294967297] runUnderlying22 sizeOf3 zeroValue3 ?_
  intro _ _ h8
  have i8:=(h8.pick 1 rfl)
  refine cX call38 (tape_pick (RdT.flat (hR.up 4 (by rfl))) om i8.flat1 (RdT.flat (RdT.blk (enc:=Go.E.encI) (sz:=1) (xs:=[0,1,4294967296,4294967297]) (fun _=>(by rfl)) 4 0 rfl rfl rfl om)) om om) ?_
  rintro _ _ ⟨o0,rfl,j8,k8,_,l8⟩
  have m8:=l8.unflat1
  have te:(o0:Int)=0\/(o0:Int)=1\/(o0:Int)=4294967296\/(o0:Int)=4294967297:=by simpa using j8
  refine pu1 ?_
  refine tW m8 3 17 (I o0) sizeOf3 ?_
  intro _ n8
  refine nB ?_
  have o8:=((n8.picks [3,1]).dropAt 2 rfl)
  exact ⟨(({s0 with max_:=o0}:Stage),[],k8),alA,(Sat.nilc o8),om,{hs0.m with},⟨(by unfold numB;dsimp only;omega),hsB.2.1,hsB.2.2.1,hsB.2.2.2.1,up1 hsB.2.2.2.2.1,up1 hsB.2.2.2.2.2.1,up1 hsB.2.2.2.2.2.2⟩⟩
 refine sR<|pu2<|nT ?_
 refine cE b0 12 (fun q8=>?_) (fun q8=>?_)
 rotate_left
 ·refine rE<|pu1 ?_
  refine sL a0 2 3 (.bool s0.barrier) (isAgg4 _) ?_
  refine pu2 ?_
  refine tW a0 2 3 (.bool (!s0.barrier)) sizeOf4 ?_
  intro _ r8
  refine nB ?_
  have s8:=(r8.picks [2,1])
  exact ⟨(({s0 with barrier:=(!s0.barrier)}:Stage),[],o1),alA,(Sat.nilc s8),om,{hs0.m with},⟨(by unfold numB;dsimp only;omega),hsB.2.1,hsB.2.2.1,hsB.2.2.2.1,up1 hsB.2.2.2.2.1,up1 hsB.2.2.2.2.2.1,up1 hsB.2.2.2.2.2.2⟩⟩
 refine sR ?_
 refine sBS a0 #[] runUnderlying22 sizeOf3 zeroValue3 ?_
 intro u8 _ j2
 refine pu1 ?_
 refine sL j2 3 8 (.slice s0.weights.a s0.weights.n s0.weights.k) (isAgg22 _) ?_
 refine sApp (nb:=8) j2 (OwnT.blk (enc:=Go.E.encI) (sz:=1) (b:=u8) (c:=#[]) (E:=3) (xs:=[]) fR 0 rfl rfl rfl om) 0 (hs0.weights.up 4 rfl) underlying22 (i:=Tryz.t3) kr fR ?_
 intro c0 d0 k2 _ r0 w8
 refine pu1 ?_
 refine tW w8 3 8 (.slice c0 (0+s0.weights.n) d0) sizeOf22 ?_
 intro _ t0
 refine zS<|pu1 ?_
 refine sL t0 3 8 (.slice c0 (0+s0.weights.n) d0) (isAgg22 _) ?_
 refine pu2<|nT ?_
 refine cD ((((0+s0.weights.n):Nat):Int)>0) (fun x8=>?_) (fun x8=>?_)
 rotate_left
 ·refine skipE<|bN<|tN ?_
  exact ⟨(({s0 with weights:=⟨c0,(0+s0.weights.n),d0,([]++s0.weights.l)⟩}:Stage),k2,o1),alA,(t0.picks [3,2,2]),om,{hs0.m with weights:=(r0.rdAt (cs:=[k2]) 0 rfl).of_mem mS},⟨(by unfold numB;dsimp only;omega),⟨by have h:=hsB.2.1.1;simp;omega,base_any hsB.2.1.2⟩,hsB.2.2.1,hsB.2.2.2.1,up1 hsB.2.2.2.2.1,up1 hsB.2.2.2.2.2.1,up1 hsB.2.2.2.2.2.2⟩⟩
 refine drawP [6,8,9,11] [(1,⟨w0,8,none⟩, .slice c0 (0+s0.weights.n) d0),(4,⟨w0,8,none⟩, .slice c0 (0+s0.weights.n) d0)] (Plan.sts [0,2,3,7]<|Plan.sts [1]<|Plan.sts [4]<|Plan.sts [5]<| .fk 6 8 (.ef 8<| .ef 9<|Plan.sts [10]<| .ef 11<| .fin) (.ef 6<| .ef 9<|Plan.sts [10]<| .ef 11<| .fin)) rfl kr ⟨cI t0 3,cI t0 3,trivial⟩ ?_
 have l2:=t0.drew
 refine qU [0,2,3,7] ?_
 refine qLd (.slice c0 (0+s0.weights.n) d0) 0 isAgg22 ?_
 refine qLd (.slice c0 (0+s0.weights.n) d0) 1 isAgg22 ?_
 refine qU [5] ?_
 refine qF ?_ ?_
 rotate_left
 ·refine qO rfl ?_
  refine sBS l2 #[I 32767,I (-32768),I 0] runUnderlying22 sizeOf3 zeroValue3 ?_
  intro _ _ f1
  refine nilO ⟨⟨cI f1 4,cI f1 4,trivial⟩,?_⟩
  refine qO rfl ?_
  have z8:=(f1.pick 2 rfl)
  refine cX call13 (tape_next (RdT.flat (hR.up 5 (by rfl))) om z8.flat1 (((0+s0.weights.n):Nat):Int) om) ?_
  rintro _ _ ⟨u0,rfl,_,_,_,a9⟩
  have g1:=a9.unflat1
  refine nilO ⟨⟨cI g1 4,cI g1 4,trivial⟩,?_⟩
  refine qO rfl ?_
  refine cX call38 (tape_pick (RdT.flat (hR.up 5 (by rfl))) om g1.flat1 (RdT.flat (RdT.blk (enc:=Go.E.encI) (sz:=1) (xs:=[32767,-32768,0]) (fun _=>(by rfl)) 3 0 rfl rfl rfl om)) om om) ?_
  rintro _ _ ⟨j0,rfl,b9,c9,_,d9⟩
  have h1:=d9.unflat1
  have jf:(j0:Int)=32767\/(j0:Int)=(-32768)\/(j0:Int)=0:=by simpa using b9
  refine nilO ⟨⟨cI h1 4,cI h1 4,trivial⟩,?_⟩
  obtain ⟨e9,f9,g9,h9,kf,i9,j9⟩:=OwnT.elem r0 u0
  refine qY (.pointer (some ⟨f9,g9+(u0).toNat*1,none⟩)) rfl (fun w _=>Y_idx (a:=c0) (i:=u0) (len:=(0+s0.weights.n)) (cap:=d0) rfl runUnderlying22 sizeOf3 kr kr i9) ?_
  refine qO rfl ?_
  refine sStF h1 r0 j9 2 (u0).toNat 0 e9 j0 h9 (I j0) [I j0] sizeOf3 ?_
  intro _ m2 k9 l9
  refine nilO ⟨dA,?_⟩
  refine qN ?_
  refine bN<|tN ?_
  exact ⟨(({s0 with weights:=⟨c0,(0+s0.weights.n),d0,(([]++s0.weights.l).set ((u0).toNat) j0)⟩}:Stage),m2,c9),alA,((l9.picks [4,1,3]).dropAt 3 rfl),om,{hs0.m with weights:=(k9.rdAt (cs:=[m2]) 0 rfl).of_mem mS},⟨(by unfold numB;dsimp only;omega),⟨by have h:=hsB.2.1.1;simp;omega,mem_set (base_any hsB.2.1.2) nb⟩,hsB.2.2.1,hsB.2.2.2.1,up1 hsB.2.2.2.2.1,up1 hsB.2.2.2.2.2.1,up1 hsB.2.2.2.2.2.2⟩⟩
 refine qO rfl ?_
 have n9:=(l2.pick 1 rfl)
 refine cX call13 (tape_next (RdT.flat (hR.up 4 (by rfl))) om n9.flat1 (((0+s0.weights.n):Nat):Int) om) ?_
 rintro _ _ ⟨v0,rfl,_,_,_,o9⟩
 have i1:=o9.unflat1
 refine nilO ⟨⟨cI i1 3,cI i1 3,trivial⟩,?_⟩
 refine qO rfl ?_
 refine sBS i1 #[I 32767,I (-32768),I 0] runUnderlying22 sizeOf3 zeroValue3 ?_
 intro _ _ j1
 refine nilO ⟨⟨cI j1 4,cI j1 4,trivial⟩,?_⟩
 refine qO rfl ?_
 have p9:=(j1.pick 1 rfl)
 refine cX call38 (tape_pick (RdT.flat (hR.up 5 (by rfl))) om p9.flat1 (RdT.flat (RdT.blk (enc:=Go.E.encI) (sz:=1) (xs:=[32767,-32768,0]) (fun _=>(by rfl)) 3 0 rfl rfl rfl om)) om om) ?_
 rintro _ _ ⟨k0,rfl,q9,r9,_,s9⟩
 have k1:=s9.unflat1
 have vf:(k0:Int)=32767\/(k0:Int)=(-32768)\/(k0:Int)=0:=by simpa using q9
 refine nilO ⟨⟨cI k1 4,cI k1 4,trivial⟩,?_⟩
 obtain ⟨t9,u9,v9,w9,wf,x9,y9⟩:=OwnT.elem r0 v0
 refine qY (.pointer (some ⟨u9,v9+(v0).toNat*1,none⟩)) rfl (fun w _=>Y_idx (a:=c0) (i:=v0) (len:=(0+s0.weights.n)) (cap:=d0) rfl runUnderlying22 sizeOf3 kr kr x9) ?_
 refine qO rfl ?_
 refine sStF k1 r0 y9 2 (v0).toNat 0 t9 k0 w9 (I k0) [I k0] sizeOf3 ?_
 intro _ n2 z9 aa
 refine nilO ⟨dA,?_⟩
 refine qN ?_
 refine bN<|tN ?_
 exact ⟨(({s0 with weights:=⟨c0,(0+s0.weights.n),d0,(([]++s0.weights.l).set ((v0).toNat) k0)⟩}:Stage),n2,r9),alA,((aa.picks [4,1,3]).dropAt 3 rfl),om,{hs0.m with weights:=(z9.rdAt (cs:=[n2]) 0 rfl).of_mem mS},⟨(by unfold numB;dsimp only;omega),⟨by have h:=hsB.2.1.1;simp;omega,mem_set (base_any hsB.2.1.2) nb⟩,hsB.2.2.1,hsB.2.2.2.1,up1 hsB.2.2.2.2.1,up1 hsB.2.2.2.2.2.1,up1 hsB.2.2.2.2.2.2⟩⟩
end Go.Proofs.YtdingplbadblpaaGreat
