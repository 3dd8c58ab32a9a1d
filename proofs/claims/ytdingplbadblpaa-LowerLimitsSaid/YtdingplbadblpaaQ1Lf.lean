import Derived.Test.YtdingplbadblpaaQ1Ab
import Derived.WalkKit
import Derived.Deep.Quiet
import Derived.KernelRfl
import Derived.Laws.BytesString
import Derived.Laws.Shifts
import Derived.Laws.IdiomStrings
import Derived.Test.YtdingplbadblpaaProg
import Derived.Shelf.SortG.Plain
import Derived.Shelf.SortG.SortNone
import Derived.Shelf.SlicesG.CompactI
import Derived.Test.YtdingplbadblpaaQ1Le
namespace Go.Proofs.Ytdingplbadblpaa
open Go Go.E Go.Proofs.Try
set_option linter.all false
set_option maxRecDepth 100000
set_option maxHeartbeats 2000000
variable {W w:World} {H:Chunk} {F:List Chunk}
theorem take_split {l:List Int} {i:Nat} {x:Int} (h:l[i]?=some x):l=l.take i++x::l.drop (i+1):=by
  obtain ⟨hl,e⟩:=List.getElem?_eq_some_iff.1 h
  conv=>lhs;rw [<-List.take_append_drop i l,List.drop_eq_getElem_cons hl,e]
theorem layw_step {L:Lay} (g:LayG L) {i:Nat} {nd tot c:Int} {fl cl:List Int} (h:L.od[i]?=some nd) (hF:∀n∈L.od.take i,fl[n.toNat]?=some (L.first n)/\cl[n.toNat]?=some (L.cnt n)) (ht:tot=((L.od.take i).map L.cnt).sum) (hc:c=L.cnt nd)
  (h1:nd.toNat<fl.length) (h2:nd.toNat<cl.length):∀n∈L.od.take (i+1),(fl.set nd.toNat tot)[n.toNat]?=some (L.first n)/\(cl.set nd.toNat c)[n.toNat]?=some (L.cnt n):=by
 intro n hn
 have hfa:=g.first_at (take_split h)
 rw [List.take_add_one,h,Option.toList_some] at hn
 rcases List.mem_append.1 hn with hn|hn
 ·have hne:n≠nd:=fun e=>hfa.2 (e▸hn)
  have r1:=g.rng n (List.mem_of_mem_take hn);have r2:=g.rng nd (List.mem_of_getElem? h);have r3:=g.ni
  rw [List.getElem?_set,if_neg om,List.getElem?_set,if_neg om]
  exact hF n hn
 ·simp only [List.mem_singleton] at hn
  subst hn
  rw [List.getElem?_set,if_pos rfl,if_pos h1,List.getElem?_set,if_pos rfl,if_pos h2,hfa.1,ht,hc]
  exact ⟨rfl,rfl⟩
theorem sum_take {f:Int->Int} {l:List Int} {i:Nat} {x:Int} (h:l[i]?=some x):((l.take (i+1)).map f).sum=((l.take i).map f).sum+f x:=by
  rw [List.take_add_one,h,Option.toList_some,List.map_append,List.sum_append];simp
theorem tasks_len {L:Lay} (g:LayG L) {x:Int} (hx:x∈L.od):((L.tasks x).length:Int)=L.cnt x:=by
  have h:=(g.grid hx).2.2
  unfold Lay.tasks Lay.cnt
  rw [List.length_append,List.length_map,upto_len]
  split<;>simp<;>omega
theorem tasks_sum {L:Lay} (g:LayG L):∀l:List Int,(∀x∈l,x∈L.od)->((l.flatMap L.tasks).length:Int)=(l.map L.cnt).sum
  |[],_=>rfl
  |x::l,h=>by
    rw [List.flatMap_cons,List.length_append,List.map_cons,List.sum_cons,<-tasks_sum g l (fun y hy=>h y (by simp [hy])),<-tasks_len g (h x (by simp))]
    push_cast;rfl
theorem take_sum_le {L:Lay} (g:LayG L) (i:Nat):0<=((L.od.take i).map L.cnt).sum/\((L.od.take i).map L.cnt).sum<=L.total:=by
  have h1:=sum_nn (f:=L.cnt) (L.od.take i) (fun y hy=>by have:=g.cntb (List.mem_of_mem_take hy);omega)
  have h2:=sum_nn (f:=L.cnt) (L.od.drop i) (fun y hy=>by have:=g.cntb (List.mem_of_mem_drop hy);omega)
  have h3:L.total=((L.od.take i).map L.cnt).sum+((L.od.drop i).map L.cnt).sum:=by
    unfold Lay.total
    rw [<-List.sum_append,<-List.map_append,List.take_append_drop]
  omega
theorem sh_bd {L:Lay} (g:LayG L) {i:Nat} {m:Shape} (h:L.sh[i]?=some m):szP m:=by
  have hl:=(List.getElem?_eq_some_iff.1 h).1
  have:=g.sz (i:Int) (by omega) (by have:=g.len;omega)
  unfold shpAt at this
  rw [show ((i:Int)).toNat=i by omega,h] at this
  exact this
theorem cellsum_le {L:Lay} (g:LayG L):∀i:Nat,i<=L.sh.length->0<=((L.sh.take i).map fun m=>m.w*m.h).sum/\((L.sh.take i).map fun m=>m.w*m.h).sum<=4096*i
  |0,_=>by simp
  |i+1,hi=>by
    have ih:=cellsum_le g i (by omega)
    have hx:L.sh[i]?=some L.sh[i]:=List.getElem?_eq_getElem (by omega)
    have hz:=sh_bd g hx
    unfold szP at hz
    have hm:0<=L.sh[i].w*L.sh[i].h:=Int.mul_nonneg (by omega) (by omega)
    rw [List.take_add_one,hx,Option.toList_some,List.map_append,List.sum_append]
    simp only [List.map_cons,List.map_nil,List.sum_cons,List.sum_nil]
    push_cast
    omega
def histC (L:Lay) (n:Int):Int:=if (L.st n).kind=4 then (L.st n).bins*(L.cnt n-1) else 0
theorem hist_bd {L:Lay} (g:LayG L) {n:Int} (hn:n∈L.od):0<=histC L n/\histC L n<=2097152:=by
  unfold histC
  split
  · rename_i hk
    have hb:=g.byt hn
    unfold bytOK at hb
    have hc:=g.cntb hn
    have:=mul_bd (a:=(L.st n).bins) (b:=L.cnt n-1) (A:=128) (B:=16384) (by omega) (by omega)
    omega
  · omega
theorem histsum_le {L:Lay} (g:LayG L):∀i:Nat,i<=L.od.length->0<=((L.od.take i).map (histC L)).sum/\((L.od.take i).map (histC L)).sum<=2097152*i
  |0,_=>by simp
  |i+1,hi=>by
    have ih:=histsum_le g i (by omega)
    have hx:L.od[i]?=some L.od[i]:=List.getElem?_eq_getElem (by omega)
    have hz:=hist_bd g (List.mem_of_getElem? hx)
    rw [sum_take hx]
    push_cast
    omega
theorem p20_plan (p:Job) (tw:Int) (th:Int) (hp:Job.Ok [H] p) (hb:p.inputs.n<=1000000/\p.stages.n<=1000000/\p.outputs.n<=1000000) (hS:Sat W w (H::F)):
  Calls prog 8 #[.agg (encJob p).toArray,I tw,I th] w fun e w'=>(¬lowC p.v tw th=0/\e= .returned (.tuple #[.pointer none,I (lowC p.v tw th)])/\Sat W w' (H::F))\/(lowC p.v tw th=0/\∃(b:Nat) (x:LayM) (G:Chunk),e= .returned (.tuple #[Pt b 0,I 0])/\LayM.Ok [G++H] x/\x.L=layV p.v tw th/\LayG x.L/\x.jobStages.n=x.jobStages.l.length/\LayW x/\x.L.total<=4096/\Sat W w' ([(b, .cells (encLayM x).toArray 51 (0,0))]::(G++H)::F)):=by
 have hl_p_inputs:=hp.inputs.le;have hn_p_inputs:=hp.inputs.len
 have hl_p_stages:=hp.stages.le;have hn_p_stages:=hp.stages.len
 have hl_p_outputs:=hp.outputs.le;have hn_p_outputs:=hp.outputs.len
 have hpi:p.v.inputs.length=p.inputs.n:=by simp [Job.v,hn_p_inputs]
 have hps:p.v.stages.length=p.stages.n:=by simp [Job.v,hn_p_stages]
 refine callsA 120 func8 rfl<|sR<|sBox hS (.agg (encJob p).toArray) (encJob p).toArray fun a1 _ z0=>pu2<|zS<|lA z0 0 0 4 (isAgg37 _) (sizeOf37 _)<|cX call13 (p17_shapes p (hp.of_mem (mem_flat1 1 (by rfl))) (od) z0.flat) ?_
 rintro _ _ ⟨i0,a0,j0,q0,rfl,r0,b1⟩
 have v0:=b1.unflat1
 have hn_az_7:=r0.len;have hl_az_7:=r0.le
 refine pu7<|zQ<|pu2<|nT<|cN ((shpV p.v).2.2) 0 (fun l0=>?_) (fun l0=>?_)
 rotate_left
 ·refine sR<|pu3<|zR<|retT [.pointer none,I ((shpV p.v).2.2)] ?_
  have c1:=(v0.drops [0,0])
  have hk:lowC p.v tw th=(shpV p.v).2.2:=by unfold lowC;rw [if_neg l0]
  exact .inl ⟨by rw [hk];omega,by rw [hk];rfl,c1⟩
 refine kS<|lA v0 1 0 4 (isAgg37 _) (sizeOf37 _)<|cX call14 (p17_order p (hp.of_mem (mem_flat1 2 (by rfl))) (od) v0.flat) ?_
 rintro _ _ ⟨g0,f0,h0,s0,rfl,n0,d1⟩
 have o0:=d1.unflat1
 have hn_az_16:=n0.len;have hl_az_16:=n0.le
 refine pu5<|nilO ?_
 have hso:=shp_ok (j:=p.v) l0;have hod:=hso.od
 have hsl:(shpV p.v).1.length=p.inputs.n+p.stages.n:=by have h:=hso.len;omega
 have hol:(ordV p.v).1.length=p.stages.n:=by have h:=hso.ln;omega
 have hnn:=hso.nn
 refine tN<|seqE<|sR<|pu2<|nT<|cN ((ordV p.v).2) 0 (fun e1=>?_) (fun e1=>?_)
 rotate_left
 ·exact sR<|pu3<|zR<|retT [.pointer none,I ((ordV p.v).2)]<|absurd hod om
 refine kT<|seqE<|sR<|pu3<|sD 39 (tw<1) (fun f1=>?_) (fun f1=>?_)
 ·refine pu11<|zC<|pu2<|zR<|retT [.pointer none,I 2] ?_
  have g1:=(o0.drops [0,0,0])
  have hk:lowC p.v tw th=2:=by unfold lowC;rw [if_pos l0,if_neg (by unfold tileP;omega)]
  exact .inl ⟨by rw [hk];omega,by rw [hk];rfl,g1⟩
 refine pu4<|sD 43 (tw>64) (fun h1=>?_) (fun h1=>?_)
 ·refine pu7<|zC<|pu2<|zR<|retT [.pointer none,I 2] ?_
  have i1:=(o0.drops [0,0,0])
  have hk:lowC p.v tw th=2:=by unfold lowC;rw [if_pos l0,if_neg (by unfold tileP;omega)]
  exact .inl ⟨by rw [hk];omega,by rw [hk];rfl,i1⟩
 refine pu4<|sD 47 (th<1) (fun j1=>?_) (fun j1=>?_)
 ·refine pu3<|zC<|pu2<|zR<|retT [.pointer none,I 2] ?_
  have k1:=(o0.drops [0,0,0])
  have hk:lowC p.v tw th=2:=by unfold lowC;rw [if_pos l0,if_neg (by unfold tileP;omega)]
  exact .inl ⟨by rw [hk];omega,by rw [hk];rfl,k1⟩
 refine pu3<|nT<|cD (th>64) (fun l1=>?_) (fun l1=>?_)
 ·refine sR<|pu2<|zR<|retT [.pointer none,I 2] ?_
  have m1:=(o0.drops [0,0,0])
  have hk:lowC p.v tw th=2:=by unfold lowC;rw [if_pos l0,if_neg (by unfold tileP;omega)]
  exact .inl ⟨by rw [hk];omega,by rw [hk];rfl,m1⟩
 refine kT<|seqE ?_
 have htp:tileP tw th:=by unfold tileP;omega
 obtain ⟨L,hL⟩:∃z:Lay,z=(⟨(p.inputs.n:Int),p.stages.l.map Stage.v,(shpV p.v).1,(ordV p.v).1,tw,th⟩:Lay):=⟨_,rfl⟩
 have hlv:L=layV p.v tw th:=by rw [hL];unfold layV;rw [hpi];rfl
 have hg:LayG L:=by rw [hlv];exact lay_ok hso htp
 have hLd:L.od=(ordV p.v).1:=by rw [hL]
 have hLs:L.sh=(shpV p.v).1:=by rw [hL]
 have hg2:LayG (⟨(p.inputs.n:Int),p.stages.l.map Stage.v,(shpV p.v).1,(ordV p.v).1,tw,th⟩:Lay):=by rw [<-hL];exact hg
 have hLt:L.tw=tw/\L.th=th:=by rw [hL];exact ⟨rfl,rfl⟩
 have hgn:=hg.ni;have hgl:(L.ss.length:Int)=p.stages.n:=by rw [hL];simp [hn_p_stages]
 have hgi:L.ni=(p.inputs.n:Int):=by rw [hL]
 refine rE<|lA o0 2 0 4 (isAgg37 _) (sizeOf37 _)<|pu5<|sBox o0 (.agg #[.slice p.inputs.a p.inputs.n p.inputs.k, .slice p.stages.a p.stages.n p.stages.k, .slice p.outputs.a p.outputs.n p.outputs.k,I p.priority,I tw,I th, .slice g0 f0 h0, .slice i0 a0 j0,nS,nS]) #[.slice p.inputs.a p.inputs.n p.inputs.k, .slice p.stages.a p.stages.n p.stages.k, .slice p.outputs.a p.outputs.n p.outputs.k,I p.priority,I tw,I th, .slice g0 f0 h0, .slice i0 a0 j0,nS,nS] fun k0 _ n1=>pu1<|zS<|pu3<|sMake (kl:= .i64) (kc:= .i64) (enc:=Go.E.encI) (sz:=1) (nb:=8) n1 0 a0 (a0:Int) (rfl:(a0:Int)=(a0:Int)) underlying23 (i:=Try.t3) kr fR fun d0 o1 _ p1 q1=>pu2 ?_
 refine tW q1 1 8 (.slice (At d0 0) a0 a0) sizeOf23 fun _ r1=>zS<|pu3<|sMake (kl:= .i64) (kc:= .i64) (enc:=Go.E.encI) (sz:=1) (nb:=8) r1 0 a0 (a0:Int) (rfl:(a0:Int)=(a0:Int)) underlying23 (i:=Try.t3) kr fR fun e0 s1 _ t1 u1=>pu2<|tW u1 2 9 (.slice (At e0 0) a0 a0) sizeOf23 fun _ v1=>zS<|pu1<|zQ<|pu3<|nT<|blockE ?_
 have w1:=(v1.picks [0,1])
 refine loopA (γ:=Nat×Int×(List Int)×Chunk×(List Int)×Chunk) (fun ⟨i,tot,fl,cf,cl,cc⟩=>[(1,I tw),(2,I th),(12,Pt k0 0),(70, .slice g0 f0 h0),(71,I (f0:Int)),(13,I tot),(72,I (i:Int))]) (fun ⟨i,tot,fl,cf,cl,cc⟩ w=>Sat W w (cf::cc::[(k0, .cells #[.slice p.inputs.a p.inputs.n p.inputs.k, .slice p.stages.a p.stages.n p.stages.k, .slice p.outputs.a p.outputs.n p.outputs.k,I p.priority,I tw,I th, .slice g0 f0 h0, .slice i0 a0 j0, .slice (At d0 0) a0 a0, .slice (At e0 0) a0 a0] 51 (0,0))]::s0::q0::[(a1, .cells (encJob p).toArray 37 (0,0))]::H::F)/\i<=p.stages.n/\OwnT Go.E.encI 3 1 (At d0 0) a0 a0 fl cf/\OwnT Go.E.encI 3 1 (At e0 0) a0 a0 cl cc/\(∀n∈L.od.take i,fl[n.toNat]?=some (L.first n)/\cl[n.toNat]?=some (L.cnt n))/\tot=((L.od.take i).map L.cnt).sum) (fun ⟨i,tot,fl,cf,cl,cc⟩=>(p.stages.n-i)) (0,0,(List.replicate a0 0),o1,(List.replicate a0 0),s1) ⟨w1,om,p1,t1,(by intro n hn;simp at hn),(by simp)⟩ ?_
 rintro ⟨i,tot,fl,cf,cl,cc⟩ ρ _ ⟨t0,hi,hOf,hOc,hF,hT⟩
 have hlf:=hOf.len;have hlc:=hOc.len;have hlfe:=hOf.le;have hlce:=hOc.le;have hts:=take_sum_le hg i;have htb:=hg.totb
 refine sR<|pu1<|nT<|seqE<|cD ((i:Int)<(f0:Int)) (fun x1=>?_) (fun x1=>?_)
 rotate_left
 ·refine exitE<|xB<|tN<|seqE<|sR<|pu2<|nT<|cD (tot>4096) (fun y1=>?_) (fun y1=>?_)
  ·refine sR<|pu2<|zR<|retT [.pointer none,I 13] ?_
   have z1:=(t0.drops [0,0,0,0,0,0])
   have hk:lowC p.v tw th=13:=by unfold lowC;rw [if_pos l0,if_pos htp,if_neg (by rw [<-hlv];unfold Lay.total;rw [<-List.take_of_length_le (l:=L.od) (i:=i) (by rw [hLd];omega),<-hT];omega)]
   exact .inl ⟨by rw [hk];omega,by rw [hk];rfl,z1⟩
  refine kS<|pu3<|zE<|retT [Pt k0 0,I 0] ?_
  have htt:L.total<=4096:=by unfold Lay.total;rw [<-List.take_of_length_le (l:=L.od) (i:=i) (by rw [hLd];omega),<-hT];omega
  have hk:lowC p.v tw th=0:=by unfold lowC;rw [if_pos l0,if_pos htp,if_pos (by rw [<-hlv];exact htt)]
  have a2:=((t0.picks [4,4,4]).dropAt 5 rfl)
  have b2:Sat W _ ([(k0, .cells #[.slice p.inputs.a p.inputs.n p.inputs.k, .slice p.stages.a p.stages.n p.stages.k, .slice p.outputs.a p.outputs.n p.outputs.k,I p.priority,I tw,I th, .slice g0 f0 h0, .slice i0 a0 j0, .slice (At d0 0) a0 a0, .slice (At e0 0) a0 a0] 51 (0,0))]::((s0++q0++cf++cc)++H)::F):=Sat.perm (show Sat W _ ([(k0, .cells #[.slice p.inputs.a p.inputs.n p.inputs.k, .slice p.stages.a p.stages.n p.stages.k, .slice p.outputs.a p.outputs.n p.outputs.k,I p.priority,I tw,I th, .slice g0 f0 h0, .slice i0 a0 j0, .slice (At d0 0) a0 a0, .slice (At e0 0) a0 a0] 51 (0,0))]::s0::q0::cf::cc::H::F) from a2) (by simp)
  have hok:LayM.Ok [(s0++q0++cf++cc)++H] (⟨p.inputs,p.stages,p.outputs,p.priority,tw,th,⟨g0,f0,h0,((ordV p.v).1)⟩,⟨i0,a0,j0,((shpV p.v).1)⟩,⟨(At d0 0),a0,a0,fl⟩,⟨(At e0 0),a0,a0,cl⟩⟩:LayM):=⟨(hp.inputs.of_mem mS),(fun z hz=>(hp.inputsD z hz).of_mem mS),(hp.stages.of_mem mS),(fun z hz=>(hp.stagesD z hz).of_mem mS),(hp.outputs.of_mem mS),(n0.rd (fun p hp=>by simp [hp])),(r0.rd (fun p hp=>by simp [hp])),(hOf.rd (fun p hp=>by simp [hp])),(hOc.rd (fun p hp=>by simp [hp]))⟩
  refine .inr ⟨hk,k0,(⟨p.inputs,p.stages,p.outputs,p.priority,tw,th,⟨g0,f0,h0,((ordV p.v).1)⟩,⟨i0,a0,j0,((shpV p.v).1)⟩,⟨(At d0 0),a0,a0,fl⟩,⟨(At e0 0),a0,a0,cl⟩⟩:LayM),(s0++q0++cf++cc),rfl,hok,?_,hg2,hn_p_stages.symm,?_,?_,b2⟩
  ·rw [<-hlv,hL];rfl
  ·exact fun n hn=>by have h:=hF n (by rw [List.take_of_length_le (by rw [hLd];omega),hLd];exact hn);rw [hL] at h;exact h
  ·rw [hL] at htt;exact htt
 refine kT<|seqE<|blockE<|sR<|sIdxO n0 (i:Int) i runUnderlying23 sizeOf3 fun c0 _ _ w0 c2 _=>?_
 have hnd:c0∈L.od:=by rw [hLd];exact List.mem_of_getElem? w0
 have hrn:=hg.rng c0 hnd;have hcb:=hg.cntb hnd;have hfi:=hg.fine hnd;have hgr:=hg.grid hnd;have hcs:=hg.cutsz hnd;unfold szP at hcs
 refine sLp t0 (c2.up 3 rfl) 0 (I c0) (isAgg3 _)<|pu1<|zS<|pu2 ?_
 have d2:=(t0.pick 2 rfl)
 refine cX call15 (p20_cut (x:=(⟨p.inputs,p.stages,p.outputs,p.priority,tw,th,⟨g0,f0,h0,((ordV p.v).1)⟩,⟨i0,a0,j0,((shpV p.v).1)⟩,⟨(At d0 0),a0,a0,fl⟩,⟨(At e0 0),a0,a0,cl⟩⟩:LayM)) ⟨(RdT.flat (hp.inputs.up 5 (by rfl))),(fun z hz=>(hp.inputsD z hz).of_mem (mem_flat1 5 (by rfl))),(RdT.flat (hp.stages.up 5 (by rfl))),(fun z hz=>(hp.stagesD z hz).of_mem (mem_flat1 5 (by rfl))),(RdT.flat (hp.outputs.up 5 (by rfl))),(RdT.flat (n0.rdAt 2 (by rfl))),(RdT.flat (r0.rdAt 3 (by rfl))),(RdT.flat (hOf.rdAt 0 (by rfl))),(RdT.flat (hOc.rdAt 1 (by rfl)))⟩ c0 hg2 hn_p_stages.symm (show c0∈(ordV p.v).1 from hLd▸hnd) d2.flat1) ?_
 rintro _ _ ⟨rfl,e2⟩
 have f2:=e2.unflat1
 obtain ⟨b0,hm_m_61⟩:∃z:Shape,z=L.cut c0:=⟨_,rfl⟩
 rw [show (LayM.L (⟨p.inputs,p.stages,p.outputs,p.priority,tw,th,⟨g0,f0,h0,((ordV p.v).1)⟩,⟨i0,a0,j0,((shpV p.v).1)⟩,⟨(At d0 0),a0,a0,fl⟩,⟨(At e0 0),a0,a0,cl⟩⟩:LayM)).cut c0=b0 from by rw [hm_m_61,hL];rfl]
 rw [<-hm_m_61] at hcs;rw [<-hm_m_61,hLt.1,hLt.2] at hfi
 refine sAlloc f2 zeroValue54 fun _ _ g2=>?_
 refine sTw g2 0 [I b0.w,I b0.h,I b0.max_] sizeOf54 fun _ x0=>zS<|pu1<|sL x0 0 0 (I b0.w) (isAgg3 _)<|pu1<|sL x0 0 1 (I b0.h) (isAgg3 _)<|pu2<|cR call16 (p5_count b0.w b0.h tw th x0.flat) fun _ h2=>pu5<|nilO ?_
 have hxn:L.nx c0=(colsN b0.w b0.h tw th)/\L.ny c0=(rowsN b0.w b0.h tw th):=by unfold Lay.nx Lay.ny;rw [<-hm_m_61,hLt.1,hLt.2];exact ⟨rfl,rfl⟩
 rw [hxn.1,hxn.2] at hgr
 refine tN<|sR<|pu2<|sMul (colsN b0.w b0.h tw th) (rowsN b0.w b0.h tw th)<|pu1<|zQ<|pu2 ?_
 have i2:=(h2.pick 1 rfl)
 refine cX call10 (p20_stage (x:=(⟨p.inputs,p.stages,p.outputs,p.priority,tw,th,⟨g0,f0,h0,((ordV p.v).1)⟩,⟨i0,a0,j0,((shpV p.v).1)⟩,⟨(At d0 0),a0,a0,fl⟩,⟨(At e0 0),a0,a0,cl⟩⟩:LayM)) ⟨(RdT.flat (hp.inputs.up 6 (by rfl))),(fun z hz=>(hp.inputsD z hz).of_mem (mem_flat1 6 (by rfl))),(RdT.flat (hp.stages.up 6 (by rfl))),(fun z hz=>(hp.stagesD z hz).of_mem (mem_flat1 6 (by rfl))),(RdT.flat (hp.outputs.up 6 (by rfl))),(RdT.flat (n0.rdAt 3 (by rfl))),(RdT.flat (r0.rdAt 4 (by rfl))),(RdT.flat (hOf.rdAt 1 (by rfl))),(RdT.flat (hOc.rdAt 2 (by rfl)))⟩ c0 (show (p.inputs.n:Int)<=c0/\c0<(p.inputs.n:Int)+(p.stages.n:Int) by omega) (show p.inputs.n<=1000/\p.stages.n<=1000 by omega) i2.flat1) ?_
 rintro _ _ ⟨m0,rfl,u0,j2⟩
 have p0:=j2.unflat1;replace u0:p.stages.l[(c0-(p.inputs.n:Int)).toNat]?=some m0:=u0
 have hok_q_74:=hp.stagesD m0 (List.mem_of_getElem? u0);have hst_q_74:(⟨(p.inputs.n:Int),p.stages.l.map Stage.v,(shpV p.v).1,(ordV p.v).1,tw,th⟩:Lay).st c0=m0.v:=stg_at (map_at (f:=Stage.v) u0)
 refine pu2<|nT<|cE m0.kind 4 (fun y0=>?_) (fun y0=>?_)
 rotate_left
 ·refine kT<|seqE ?_
  have hcn:((colsN b0.w b0.h tw th)*(rowsN b0.w b0.h tw th))=L.cnt c0:=by unfold Lay.cnt;rw [show L.st c0=m0.v from by rw [hL];exact hst_q_74,if_neg (show ¬m0.v.kind=4 from y0),hxn.1,hxn.2]
  obtain ⟨k2,l2,m2,n2,r4,o2,p2⟩:=OwnT.elem hOf c0
  obtain ⟨q2,r2,s2,t2,s4,u2,v2⟩:=OwnT.elem hOc c0
  refine drawE [13,15] [(3,⟨k0,8,none⟩, .slice (At d0 0) a0 a0),(8,⟨k0,9,none⟩, .slice (At e0 0) a0 a0)] [(true,[0,1,2,4,5,6,7,9,10,11]),(true,[3]),(true,[8]),(true,[12]),(false,[13]),(true,[14]),(false,[15])] rfl kr ⟨cI p0 0,cI p0 0,trivial⟩ ?_
  have w2:=p0.drew
  refine wU [0,1,2,4,5,6,7,9,10,11]<|wLd (.slice (At d0 0) a0 a0) 0 isAgg23<|wLd (.slice (At e0 0) a0 a0) 1 isAgg23<|wY (.pointer (some ⟨l2,m2+(c0).toNat*1,none⟩)) rfl (fun w _=>Y_idx (a:=(At d0 0)) (i:=c0) (len:=a0) (cap:=a0) rfl runUnderlying23 sizeOf3 kr kr o2)<|wO rfl<|sStF w2 hOf p2 2 (c0).toNat 0 k2 tot n2 (I tot) [I tot] sizeOf3 fun _ x2 y2 z2=>nilO ⟨dA,?_⟩
  refine wY (.pointer (some ⟨r2,s2+(c0).toNat*1,none⟩)) rfl (fun w _=>Y_idx (a:=(At e0 0)) (i:=c0) (len:=a0) (cap:=a0) rfl runUnderlying23 sizeOf3 kr kr u2)<|wO rfl<|sStF z2 hOc v2 3 (c0).toNat 0 q2 ((colsN b0.w b0.h tw th)*(rowsN b0.w b0.h tw th)) t2 (I ((colsN b0.w b0.h tw th)*(rowsN b0.w b0.h tw th))) [I ((colsN b0.w b0.h tw th)*(rowsN b0.w b0.h tw th))] sizeOf3 fun _ a3 b3 c3=>nilO ⟨dA,?_⟩
  refine wN<|tN<|rE<|pu2<|sAdd tot ((colsN b0.w b0.h tw th)*(rowsN b0.w b0.h tw th))<|pu1<|nB<|rE<|sAdd (i:Int) 1<|pu1<|nT ?_
  have d3:=((c3.picks [3,3]).dropAt 3 rfl)
  have hLi:L.od[i]?=some c0:=by rw [hLd];exact w0
  exact ⟨(i+1,(tot+((colsN b0.w b0.h tw th)*(rowsN b0.w b0.h tw th))),(fl.set ((c0).toNat) tot),x2,(cl.set ((c0).toNat) ((colsN b0.w b0.h tw th)*(rowsN b0.w b0.h tw th))),a3),od,alA,d3,om,y2,b3,(layw_step hg hLi hF hT hcn om om),(by rw [sum_take hLi,<-hT,<-hcn])⟩
 refine rE<|pu1<|sAdd ((colsN b0.w b0.h tw th)*(rowsN b0.w b0.h tw th)) 1<|pu1<|nT<|seqE ?_
 have hcn:(((colsN b0.w b0.h tw th)*(rowsN b0.w b0.h tw th))+1)=L.cnt c0:=by unfold Lay.cnt;rw [show L.st c0=m0.v from by rw [hL];exact hst_q_74,if_pos (show m0.v.kind=4 from y0),hxn.1,hxn.2]
 obtain ⟨e3,f3,g3,h3,v4,i3,j3⟩:=OwnT.elem hOf c0
 obtain ⟨k3,l3,m3,n3,w4,o3,p3⟩:=OwnT.elem hOc c0
 refine drawE [13,15] [(3,⟨k0,8,none⟩, .slice (At d0 0) a0 a0),(8,⟨k0,9,none⟩, .slice (At e0 0) a0 a0)] [(true,[0,1,2,4,5,6,7,9,10,11]),(true,[3]),(true,[8]),(true,[12]),(false,[13]),(true,[14]),(false,[15])] rfl kr ⟨cI p0 0,cI p0 0,trivial⟩ ?_
 have q3:=p0.drew
 refine wU [0,1,2,4,5,6,7,9,10,11]<|wLd (.slice (At d0 0) a0 a0) 0 isAgg23<|wLd (.slice (At e0 0) a0 a0) 1 isAgg23<|wY (.pointer (some ⟨f3,g3+(c0).toNat*1,none⟩)) rfl (fun w _=>Y_idx (a:=(At d0 0)) (i:=c0) (len:=a0) (cap:=a0) rfl runUnderlying23 sizeOf3 kr kr i3)<|wO rfl<|sStF q3 hOf j3 2 (c0).toNat 0 e3 tot h3 (I tot) [I tot] sizeOf3 fun _ r3 s3 u3=>nilO ⟨dA,?_⟩
 refine wY (.pointer (some ⟨l3,m3+(c0).toNat*1,none⟩)) rfl (fun w _=>Y_idx (a:=(At e0 0)) (i:=c0) (len:=a0) (cap:=a0) rfl runUnderlying23 sizeOf3 kr kr o3)<|wO rfl<|sStF u3 hOc p3 3 (c0).toNat 0 k3 (((colsN b0.w b0.h tw th)*(rowsN b0.w b0.h tw th))+1) n3 (I (((colsN b0.w b0.h tw th)*(rowsN b0.w b0.h tw th))+1)) [I (((colsN b0.w b0.h tw th)*(rowsN b0.w b0.h tw th))+1)] sizeOf3 fun _ v3 w3 x3=>nilO ⟨dA,?_⟩
 refine wN<|tN<|rE<|pu2<|sAdd tot (((colsN b0.w b0.h tw th)*(rowsN b0.w b0.h tw th))+1)<|pu1<|nB<|rE<|sAdd (i:Int) 1<|pu1<|nT ?_
 have y3:=((x3.picks [3,3]).dropAt 3 rfl)
 have hLi:L.od[i]?=some c0:=by rw [hLd];exact w0
 exact ⟨(i+1,(tot+(((colsN b0.w b0.h tw th)*(rowsN b0.w b0.h tw th))+1)),(fl.set ((c0).toNat) tot),r3,(cl.set ((c0).toNat) (((colsN b0.w b0.h tw th)*(rowsN b0.w b0.h tw th))+1)),v3),od,alA,y3,om,s3,w3,(layw_step hg hLi hF hT hcn om om),(by rw [sum_take hLi,<-hT,<-hcn])⟩
theorem p20_low (p:Job) (tw:Int) (th:Int) (hp:Job.Ok [H] p) (hb:p.inputs.n<=1000000/\p.stages.n<=1000000/\p.outputs.n<=1000000) (hS:Sat W w (H::F)):
  Calls prog 5 #[.agg (encJob p).toArray,I tw,I th] w fun e w'=>∃(az:Option Addr) (nz kz:Nat) (zs:List Task) (Z G:Chunk),e= .returned (.tuple #[.slice az nz kz,I (lowC p.v tw th)])/\OwnT encTask 60 9 az nz kz zs Z/\(∀z∈zs,Task.Ok [G] z)/\zs.map Task.v=lowV p.v tw th/\Sat W w' (Z::G::H::F):=by
 have hl_p_inputs:=hp.inputs.le;have hn_p_inputs:=hp.inputs.len
 have hl_p_stages:=hp.stages.le;have hn_p_stages:=hp.stages.len
 have hl_p_outputs:=hp.outputs.le;have hn_p_outputs:=hp.outputs.len
 refine callsA 39 func5 rfl<|sR<|sBox hS (.agg (encJob p).toArray) (encJob p).toArray fun o0 _ p0=>pu2<|zS<|lA p0 0 0 4 (isAgg37 _) (sizeOf37 _)<|pu2<|sF #[.agg (encJob p).toArray,I tw,I th] call8 (Calls.mono (p20_plan (F:=[]) p tw th (hp.of_mem (mem_flat1 1 (by rfl))) om p0.flat) ?_)
 rintro _ _ (⟨c0,rfl,g0⟩|⟨c0,e0,a0,q0,rfl,b0,t0,u0,hx2_13,v0,w0,g0⟩)
 ·refine ⟨_,rfl,?_⟩
  have x0:=g0.unflat
  refine pu5<|zQ<|pu2<|nT<|cT _ (bne_iff_ne.2 c0)<|sR<|pu3<|zR<|retT [nS,I (lowC p.v tw th)] ?_
  have y0:=(x0.dropAt 0 rfl)
  have z0:Sat W _ ([]::[]::H::F):=Sat.nilc (Sat.nilc y0)
  exact ⟨none,0,0,[],_,_,rfl,OwnT.nil fR,(fun z hz=>by cases hz),by unfold lowV;rw [if_neg c0];rfl,z0⟩
 ·refine ⟨_,rfl,?_⟩
  obtain ⟨h0,i0⟩:∃z:Chunk,z=q0++(([(o0, .cells (encJob p).toArray 37 (0,0))]::H::F):List Chunk).flatten:=⟨_,rfl⟩;rw [<-i0] at b0;have j0:=g0;rw [<-i0] at j0
  have hl_x_8_jobInputs:=b0.jobInputs.le;have hn_x_8_jobInputs:=b0.jobInputs.len
  have hl_x_8_jobStages:=b0.jobStages.le;have hn_x_8_jobStages:=b0.jobStages.len
  have hl_x_8_jobOutputs:=b0.jobOutputs.le;have hn_x_8_jobOutputs:=b0.jobOutputs.len
  have hl_x_8_order:=b0.order.le;have hn_x_8_order:=b0.order.len
  have hl_x_8_shapes:=b0.shapes.le;have hn_x_8_shapes:=b0.shapes.len
  have hl_x_8_first:=b0.first.le;have hn_x_8_first:=b0.first.len
  have hl_x_8_count:=b0.count.le;have hn_x_8_count:=b0.count.len
  have hg:=u0;have hx2:=hx2_13;have hW:=v0;have htt:=w0
  refine pu5<|zQ<|pu2<|nT<|cFf<|kS<|pu1<|zQ<|pu3<|sL j0 0 6 (.slice a0.order.a a0.order.n a0.order.k) (isAgg23 _)<|pu2<|nT<|blockE ?_
  have a1:=Sat.nilc j0
  have b1:=OwnT.nil (enc:=encTask) (E:=60) (sz:=9) fR
  refine loopA (γ:=Nat×(List Task)×(Option Addr)×Nat×Nat×Chunk×Chunk) (fun ⟨i,zs,azs,nzs,kzs,czs,Gzs⟩=>[(8,Pt e0 0),(26, .slice a0.order.a a0.order.n a0.order.k),(27,I (a0.order.n:Int)),(28,I (i:Int)),(10, .slice azs nzs kzs)]) (fun ⟨i,zs,azs,nzs,kzs,czs,Gzs⟩ w=>Sat W w [Gzs,czs,[(e0, .cells (encLayM a0).toArray 51 (0,0))],h0]/\i<=a0.order.n/\(zs.map Task.v=(a0.L.od.take i).flatMap a0.L.tasks)/\((zs.length:Int)=((a0.L.od.take i).map a0.L.cnt).sum)/\OwnT encTask 60 9 azs nzs kzs zs czs/\(∀z∈zs,Task.Ok [Gzs] z)) (fun ⟨i,zs,azs,nzs,kzs,czs,Gzs⟩=>a0.order.n-i) (0,[],none,0,0,[],[]) ⟨(Sat.nilc a1),om,by rfl,(by simp),b1,(by intro z hz;cases hz)⟩ ?_
  rintro ⟨i,zs,azs,nzs,kzs,czs,Gzs⟩ ρ d1 ⟨k0,hi,hE,hzl,hOzs,hDzs⟩
  have hn_zs:=hOzs.len;have hl_zs:=hOzs.le
  refine sR<|pu1<|nT<|seqE<|cD ((i:Int)<(a0.order.n:Int)) (fun e1=>?_) (fun e1=>?_)
  rotate_left
  ·refine exitE<|xB<|tN<|sR<|pu3<|zE<|retT [.slice azs nzs kzs,I 0] ?_
   have f1:=((k0.pick 1 rfl).dropAt 2 rfl)
   have g1:Sat W d1 (czs::Gzs::q0::[(o0, .cells (encJob p).toArray 37 (0,0))]::H::F):=by have h9:=f1;rw [i0] at h9;exact Sat.perm h9 (by simp [Value.cells])
   have h1:=(g1.drops [2,2])
   have hz:zs.map Task.v=lowV p.v tw th:=by unfold lowV;rw [if_pos c0,<-t0];unfold Lay.all;rw [hE,List.take_of_length_le (by show a0.order.l.length<=_;omega)]
   exact ⟨_,_,_,_,_,_,by rw [c0];rfl,hOzs,hDzs,hz,h1⟩
  refine kT<|seqE<|blockE<|sR<|sIdx b0.order (i:Int) runUnderlying23 sizeOf3 fun f0 _ _ d0 i1=>?_
  rw [Int.toNat_natCast] at d0
  have hnd:f0∈a0.L.od:=List.mem_of_getElem? d0;have hcb:=hg.cntb hnd;have hts:=take_sum_le hg i;have hts1:=take_sum_le hg (i+1);rw [sum_take (l:=a0.L.od) d0] at hts1
  refine sLp k0 (i1.up 3 rfl) 0 (I f0) (isAgg3 _)<|pu1<|nT<|rE<|pu3 ?_
  have j1:=(k0.pick 2 rfl)
  refine cX call9 (p20_tasks (b0.of_mem (mem_flat1 2 (by rfl))) f0 hg hx2 hW hnd htt j1.flat1) ?_
  rintro _ _ ⟨_,k1,_,r0,_,l0,rfl,m0,l1,s0,m1⟩
  have n1:=m1.unflat3;have hn_az_37:=m0.len;have hl_az_37:=m0.le
  have hzl_az_37:(r0.length:Int)=a0.L.cnt f0:=by rw [<-tasks_len hg hnd,<-s0,List.length_map]
  refine sApp (nb:=88) n1 hOzs 4 (m0.rdAt 0 rfl) underlying38 (i:=Try.t60) kr fR fun o1 p1 n0 _ q1 r1=>pu1<|nB<|rE<|sAdd (i:Int) 1<|pu1<|nT ?_
  have s1:=((r1.picks [4,4,3]).dropAt 3 rfl)
  exact ⟨(i+1,(zs++r0),o1,(nzs+k1),p1,n0,(l0++Gzs)),od,alA,(Sat.perm (cs':=(l0++Gzs)::(n0::[(e0, .cells (encLayM a0).toArray 51 (0,0))]::h0::[])) (show Sat W _ [l0,Gzs,n0,[(e0, .cells (encLayM a0).toArray 51 (0,0))],h0] from s1) (by simp)),om,(by rw [List.map_append,hE,s0,<-take_flat (l:=a0.L.od) d0]),(by rw [List.length_append,sum_take (l:=a0.L.od) d0,<-hzl,<-hzl_az_37];push_cast;rfl),q1,(by
    intro z hz
    rcases List.mem_append.1 hz with h|h
    ·exact (hDzs z h).of_mem mS
    ·exact (l1 z h).of_mem mS)⟩
theorem p20_cells (p:Job) (tw:Int) (th:Int) (hp:Job.Ok [H] p) (hb:p.inputs.n<=1000000/\p.stages.n<=1000000/\p.outputs.n<=1000000) (hS:Sat W w (H::F)):
  Calls prog 6 #[.agg (encJob p).toArray,I tw,I th] w fun e w'=>e= .returned (.tuple #[I (celV p.v tw th),I (lowC p.v tw th)])/\Sat W w' (H::F):=by
 have hl_p_inputs:=hp.inputs.le;have hn_p_inputs:=hp.inputs.len
 have hl_p_stages:=hp.stages.le;have hn_p_stages:=hp.stages.len
 have hl_p_outputs:=hp.outputs.le;have hn_p_outputs:=hp.outputs.len
 refine callsA 73 func6 rfl<|sR<|sBox hS (.agg (encJob p).toArray) (encJob p).toArray fun s0 _ t0=>pu2<|zS<|lA t0 0 0 4 (isAgg37 _) (sizeOf37 _)<|pu2<|sF #[.agg (encJob p).toArray,I tw,I th] call8 (Calls.mono (p20_plan (F:=[]) p tw th (hp.of_mem (mem_flat1 1 (by rfl))) om t0.flat) ?_)
 rintro _ _ (⟨h0,rfl,l0⟩|⟨h0,i0,a0,u0,rfl,b0,z0,a1,hx2_13,b1,d1,l0⟩)
 ·refine ⟨_,rfl,?_⟩
  have e1:=l0.unflat
  exact pu5<|zQ<|pu2<|nT<|cT _ (bne_iff_ne.2 h0)<|sR<|pu3<|zR<|retT [I 0,I (lowC p.v tw th)]<|⟨by unfold celV;rw [if_neg h0];rfl,(e1.dropAt 0 rfl)⟩
 ·refine ⟨_,rfl,?_⟩
  obtain ⟨v0,m0⟩:∃z:Chunk,z=u0++(([(s0, .cells (encJob p).toArray 37 (0,0))]::H::F):List Chunk).flatten:=⟨_,rfl⟩;rw [<-m0] at b0;have n0:=l0;rw [<-m0] at n0
  have hl_x_8_jobInputs:=b0.jobInputs.le;have hn_x_8_jobInputs:=b0.jobInputs.len
  have hl_x_8_jobStages:=b0.jobStages.le;have hn_x_8_jobStages:=b0.jobStages.len
  have hl_x_8_jobOutputs:=b0.jobOutputs.le;have hn_x_8_jobOutputs:=b0.jobOutputs.len
  have hl_x_8_order:=b0.order.le;have hn_x_8_order:=b0.order.len
  have hl_x_8_shapes:=b0.shapes.le;have hn_x_8_shapes:=b0.shapes.len
  have hl_x_8_first:=b0.first.le;have hn_x_8_first:=b0.first.len
  have hl_x_8_count:=b0.count.le;have hn_x_8_count:=b0.count.len
  have hg:=a1;have hx2:=hx2_13;have hW:=b1;have htt:=d1
  refine pu5<|zQ<|pu2<|nT<|cFf<|kS<|pu1<|zQ<|pu3<|sL n0 0 7 (.slice a0.shapes.a a0.shapes.n a0.shapes.k) (isAgg49 _)<|pu2<|nT<|blockE<|loopA (γ:=Nat×Int) (fun ⟨i,c1⟩=>[(8,Pt i0 0),(29, .slice a0.shapes.a a0.shapes.n a0.shapes.k),(30,I (a0.shapes.n:Int)),(31,I (i:Int)),(10,I c1)]) (fun ⟨i,c1⟩ w=>Sat W w [[(i0, .cells (encLayM a0).toArray 51 (0,0))],v0]/\i<=a0.shapes.n/\(c1=((a0.L.sh.take i).map fun m=>m.w*m.h).sum)) (fun ⟨i,c1⟩=>a0.shapes.n-i) (0,0) ⟨n0,om,(by simp)⟩ ?_
  rintro ⟨i,c1⟩ ρ _ ⟨j0,hi,hE⟩
  refine sR<|pu1<|nT<|seqE<|cD ((i:Int)<(a0.shapes.n:Int)) (fun g1=>?_) (fun g1=>?_)
  ·refine kT<|seqE<|blockE<|sR<|sIdx b0.shapes (i:Int) runUnderlying49 sizeOf54 fun c0 _ _ o0 h1=>?_
   rw [Int.toNat_natCast] at o0
   have hgl:=hg.len;have hgn0:=hg.ni;simp only [LayM.L] at hgl hgn0
   have hsz:=sh_bd hg (show a0.L.sh[i]?=some c0 from o0);unfold szP at hsz;have hcs:=cellsum_le hg i (show i<=a0.shapes.l.length by omega);have hmw:=mul_bd (a:=c0.w) (b:=c0.h) (A:=128) (B:=128) om om
   refine sLpA j0 (h1.up 1 rfl) 0 [I c0.w,I c0.h,I c0.max_] (isAgg54 _) (sizeOf54 _)<|sAlloc j0 zeroValue54 fun _ _ i1=>?_
   exact sTw i1 0 [I c0.w,I c0.h,I c0.max_] sizeOf54 fun _ p0=>nT<|rE<|pu2<|sL p0 0 0 (I c0.w) (isAgg3 _)<|pu1<|sL p0 0 1 (I c0.h) (isAgg3 _)<|sMul c0.w c0.h<|sAdd c1 (c0.w*c0.h)<|pu1<|nB<|rE<|sAdd (i:Int) 1<|pu1<|nT<|⟨(i+1,(c1+(c0.w*c0.h))),od,alA,(p0.dropAt 0 rfl),om,(by rw [List.take_add_one,show a0.L.sh[i]?=some c0 from o0,Option.toList_some,List.map_append,List.sum_append,<-hE];simp)⟩
  refine exitE<|xB<|tN<|seqE<|sR<|pu3<|sL j0 0 6 (.slice a0.order.a a0.order.n a0.order.k) (isAgg23 _)<|pu2<|nT<|blockE<|loopA (γ:=Nat×Int) (fun ⟨j,c2⟩=>[(8,Pt i0 0),(46, .slice a0.order.a a0.order.n a0.order.k),(47,I (a0.order.n:Int)),(48,I (j:Int)),(10,I c2)]) (fun ⟨j,c2⟩ w=>Sat W w [[(i0, .cells (encLayM a0).toArray 51 (0,0))],v0]/\j<=a0.order.n/\(c2=c1+((a0.L.od.take j).map (histC a0.L)).sum)) (fun ⟨j,c2⟩=>a0.order.n-j) (0,c1) ⟨j0,om,(by simp)⟩ ?_
  rintro ⟨j,c2⟩ ρ k1 ⟨q0,hj,hE2⟩
  have hgl:=hg.len;have hgn0:=hg.ni;have hgo:=hg.ln;simp only [LayM.L] at hgl hgn0 hgo;have hcs9:=cellsum_le hg i (show i<=a0.shapes.l.length by omega)
  refine sR<|pu1<|nT<|seqE<|cD ((j:Int)<(a0.order.n:Int)) (fun l1=>?_) (fun l1=>?_)
  rotate_left
  ·refine exitE<|xB<|tN<|sR<|pu3<|zE<|retT [I c2,I 0] ?_
   have m1:=(q0.dropAt 0 rfl)
   have n1:Sat W k1 (u0::[(s0, .cells (encJob p).toArray 37 (0,0))]::H::F):=by have h9:=m1;rw [m0] at h9;exact Sat.perm h9 (by simp [Value.cells])
   have o1:=(n1.drops [0,0])
   have hz:c2=celV p.v tw th:=by unfold celV;rw [if_pos h0,<-z0];unfold Lay.cells;rw [hE2,hE,List.take_of_length_le (by show a0.shapes.l.length<=_;omega),List.take_of_length_le (l:=a0.L.od) (by show a0.order.l.length<=_;omega)];rfl
   exact ⟨by rw [h0,<-hz];rfl,o1⟩
  refine kT<|seqE<|blockE<|sR<|sIdx b0.order (j:Int) runUnderlying23 sizeOf3 fun e0 _ _ k0 p1=>?_
  rw [Int.toNat_natCast] at k0
  have hnd:e0∈a0.L.od:=List.mem_of_getElem? k0;have hcb:=hg.cntb hnd;have hrn:=hg.rng e0 hnd;have hgn:=hg.ni;simp only [LayM.L,List.length_map] at hrn hgn;have hbk:=hg.byt hnd;have hhs:=histsum_le hg j (show j<=a0.order.l.length by omega);have hhb:=hist_bd hg hnd
  have hb2:=(List.getElem?_eq_some_iff.1 (hW e0 hnd).2).1
  refine sLp q0 (p1.up 1 rfl) 0 (I e0) (isAgg3 _)<|pu1<|zS<|pu2<|cX call10 (p20_stage (b0.of_mem (mem_flat1 0 (by rfl))) e0 om om q0.flat1) ?_
  rintro _ _ ⟨d0,rfl,w0,q1⟩
  have r1:=q1.unflat1
  have hok_q_46:=b0.jobStagesD d0 (List.mem_of_getElem? w0);have hst_q_46:=lay_st w0
  refine sAlloc r1 zeroValue33 fun s1 _ t1=>?_
  refine sT t1 0 0 (.agg (encStage d0).toArray) (encStage d0) (encStage d0).toArray sizeOf33 fun _ g0=>zS<|pu1<|sL g0 0 0 (I d0.kind) (isAgg3 _)<|pu1<|nT<|cE d0.kind 4 (fun r0=>?_) (fun r0=>?_)
  rotate_left
  ·refine skipE<|bN<|tN<|rE<|sAdd (j:Int) 1<|pu1<|nT ?_
   exact ⟨(j+1,c2),od,alA,(g0.dropAt 0 rfl),om,(by rw [sum_take (l:=a0.L.od) k0,show histC a0.L e0=0 from by unfold histC;rw [hst_q_46,if_neg (show ¬d0.v.kind=4 from r0)],hE2];omega)⟩
  have hhc:histC a0.L e0=d0.bins*(a0.L.cnt e0-1):=by unfold histC;rw [hst_q_46,if_pos (show d0.v.kind=4 from r0)];rfl
  rw [hst_q_46] at hbk;unfold bytOK at hbk;simp only [Stage.v] at hbk
  obtain ⟨f0,x0,y0,v1,w1,x1⟩:=RdT.elem b0.count e0
  have hc_x_54:a0.L.cnt e0=f0:=Option.some.inj ((hW e0 hnd).2.symm.trans v1)
  have hmq:=mul_bd (a:=d0.bins) (b:=f0-1) (A:=128) (B:=16384) om om
  refine drawE [] [(2,⟨s1,15,none⟩,I d0.bins),(6,⟨i0,9,none⟩, .slice a0.count.a a0.count.n a0.count.k),(9,⟨x0,y0,none⟩,I f0)] [(true,[0,1,3,4,5,7]),(true,[2]),(true,[6]),(true,[8]),(true,[9]),(true,[10]),(true,[11]),(true,[12]),(true,[13])] rfl kr ⟨cI g0 0,cI g0 1, .inr ((w1.up 2 rfl).cell g0 (k:=0) rfl),trivial⟩ ?_
  have y1:=g0.drew
  exact wU [0,1,3,4,5,7]<|wLd (I d0.bins) 0 isAgg3<|wLd (.slice a0.count.a a0.count.n a0.count.k) 1 isAgg23<|wY (.pointer (some ⟨x0,y0,none⟩)) rfl (fun w _=>Y_idx (a:=a0.count.a) (i:=e0) (len:=a0.count.n) (cap:=a0.count.k) rfl runUnderlying23 sizeOf3 kr kr x1)<|wLd (I f0) 2 isAgg3<|wSub f0 1<|wMul d0.bins (f0-1)<|wAdd c2 (d0.bins*(f0-1))<|wU [13]<|wN<|bN<|tN<|rE<|sAdd (j:Int) 1<|pu1<|nT<|⟨(j+1,(c2+(d0.bins*(f0-1)))),od,alA,(y1.dropAt 0 rfl),om,(by rw [sum_take (l:=a0.L.od) k0,hhc,hc_x_54,hE2];omega)⟩
def blurV:JobV:=⟨[⟨4,4,9,List.replicate 16 0⟩],[⟨6,0,-1,false,0,0,0,0,[],[],[],0,0,[],[],0,[⟨0,0⟩],9⟩,⟨1,1,-1,false,0,0,3,3,List.replicate 9 0,[],[],0,0,[],[],0,[],9⟩],[2],0⟩
theorem bl1:lowC blurV 2 2=0:=by decide+kernel
theorem bl2:(lowV blurV 2 2).length=8:=by decide+kernel
theorem bl4:(lowV blurV 2 2)[7]?.map (fun z=>(z.deps.length,z.rows,z.scratch))=some (4,2,128):=by decide+kernel
theorem bl3:celV blurV 2 2=48:=by decide+kernel
theorem bl5:scrV (stgAt blurV.stages 0 0) ⟨4,4,9⟩ 0 ⟨0,0,2,2⟩=16:=by decide+kernel
theorem l20_blur {F:List Chunk} (hS:Sat W w F):
  Calls prog 11 #[] w fun e w'=>∃(q:Job) (G:Chunk),e= .returned (.agg (encJob q).toArray)/\Job.Ok [G] q/\q.v=blurV/\(q.inputs.n=1/\q.stages.n=2/\q.outputs.n=1)/\Sat W w' (G::F):=by
 refine callsA 18 func11 rfl<|sR<|sAlloc hS zeroValue37 fun _ _ l0=>zS<|sMake (kl:= .i64) (kc:= .i64) (enc:=Go.E.encI) (sz:=1) (nb:=8) l0 0 16 16 (rfl:(16:Int)=((16:Nat):Int)) underlying23 (i:=Try.t3) kr fR fun b0 g0 _ m0 n0=>pu1<|sAlloc n0 zeroValue25 fun _ _ o0=>?_
 refine sTw o0 0 [I 4,I 4,I 9, .slice (At b0 0) 16 16] sizeOf25 fun _ p0=>zS<|pu1<|sBS p0 #[I 0,I 0] runUnderlying28 sizeOf27 zeroValue27 fun a0 _ q0=>pu1<|sAlloc q0 zeroValue33 fun _ _ r0=>?_
 refine sT r0 0 0 (.agg (encStage {zStage with kind:=6,b:=-1,ops:=⟨(At a0 0),1,1,[]⟩,max_:=9}).toArray) (encStage {zStage with kind:=6,b:=-1,ops:=⟨(At a0 0),1,1,[]⟩,max_:=9}) (encStage {zStage with kind:=6,b:=-1,ops:=⟨(At a0 0),1,1,[]⟩,max_:=9}).toArray sizeOf33 fun _ s0=>zS<|sMake (kl:= .i64) (kc:= .i64) (enc:=Go.E.encI) (sz:=1) (nb:=8) s0 0 9 9 (rfl:(9:Int)=((9:Nat):Int)) underlying23 (i:=Try.t3) kr fR fun c0 h0 _ t0 u0=>pu1<|sAlloc u0 zeroValue33 fun _ _ v0=>?_
 refine sTw v0 0 [I 1,I 1,I (-1), .bool false,I 0,I 0,I 3,I 3, .slice (At c0 0) 9 9,nS,nS,I 0,I 0,nS,nS,I 0,nS,I 9] sizeOf33 fun _ j0=>zS<|lA j0 4 0 4 (isAgg25 _) (sizeOf25 _)<|sBS j0 #[I 4,I 4,I 9, .slice (At b0 0) 16 16] runUnderlying34 sizeOf25 zeroValue25 fun d0 _ i0=>lA i0 3 0 18 (isAgg33 _) (sizeOf33 _)<|lA i0 1 0 18 (isAgg33 _) (sizeOf33 _)<|sBS i0 #[I 6,I 0,I (-1), .bool false,I 0,I 0,I 0,I 0,nS,nS,nS,I 0,I 0,nS,nS,I 0, .slice (At a0 0) 1 1,I 9,I 1,I 1,I (-1), .bool false,I 0,I 0,I 3,I 3, .slice (At c0 0) 9 9,nS,nS,I 0,I 0,nS,nS,I 0,nS,I 9] runUnderlying35 sizeOf33 zeroValue33 fun e0 _ w0=>?_
 refine sBS w0 #[I 2] runUnderlying23 sizeOf3 zeroValue3 fun f0 _ x0=>pu1<|sTw x0 9 [.slice (At d0 0) 1 1, .slice (At e0 0) 2 2, .slice (At f0 0) 1 1,I 0] sizeOf37 fun _ k0=>zE<|retN (vs:=[.agg #[.slice (At d0 0) 1 1, .slice (At e0 0) 2 2, .slice (At f0 0) 1 1,I 0]]) rfl (.cons (.cell _ _ _ _ kr (lvA k0 9 0 [.slice (At d0 0) 1 1, .slice (At e0 0) 2 2, .slice (At f0 0) 1 1,I 0] (isAgg37 _) (sizeOf37 _) rfl rfl rfl)) .nil) ?_
 have y0:=((k0.picks [6,8,2,3,4]).drops [5,6,6,6])
 have z0:Sat W _ (([(d0, .cells #[I 4,I 4,I 9, .slice (At b0 0) 16 16] 25 (0,0))]++[(e0, .cells #[I 6,I 0,I (-1), .bool false,I 0,I 0,I 0,I 0,nS,nS,nS,I 0,I 0,nS,nS,I 0, .slice (At a0 0) 1 1,I 9,I 1,I 1,I (-1), .bool false,I 0,I 0,I 3,I 3, .slice (At c0 0) 9 9,nS,nS,I 0,I 0,nS,nS,I 0,nS,I 9] 33 (0,0))]++[(f0, .cells #[I 2] 3 (0,0))]++g0++[(a0, .cells #[I 0,I 0] 27 (0,0))]++h0)::F):=Sat.perm (show Sat W _ ([(d0, .cells #[I 4,I 4,I 9, .slice (At b0 0) 16 16] 25 (0,0))]::[(e0, .cells #[I 6,I 0,I (-1), .bool false,I 0,I 0,I 0,I 0,nS,nS,nS,I 0,I 0,nS,nS,I 0, .slice (At a0 0) 1 1,I 9,I 1,I 1,I (-1), .bool false,I 0,I 0,I 3,I 3, .slice (At c0 0) 9 9,nS,nS,I 0,I 0,nS,nS,I 0,nS,I 9] 33 (0,0))]::[(f0, .cells #[I 2] 3 (0,0))]::g0::[(a0, .cells #[I 0,I 0] 27 (0,0))]::h0::F) from y0) (by simp)
 refine ⟨(⟨⟨(At d0 0),1,1,[(⟨4,4,9,⟨(At b0 0),16,16,(List.replicate 16 0)⟩⟩:Plane)]⟩,⟨(At e0 0),2,2,[(⟨6,0,-1,false,0,0,0,0,⟨none,0,0,[]⟩,⟨none,0,0,[]⟩,⟨none,0,0,[]⟩,0,0,⟨none,0,0,[]⟩,⟨none,0,0,[]⟩,0,⟨(At a0 0),1,1,[(⟨0,0⟩:POp)]⟩,9⟩:Stage),(⟨1,1,-1,false,0,0,3,3,⟨(At c0 0),9,9,(List.replicate 9 0)⟩,⟨none,0,0,[]⟩,⟨none,0,0,[]⟩,0,0,⟨none,0,0,[]⟩,⟨none,0,0,[]⟩,0,⟨none,0,0,[]⟩,9⟩:Stage)]⟩,⟨(At f0 0),1,1,[2]⟩,0⟩:Job),([(d0, .cells #[I 4,I 4,I 9, .slice (At b0 0) 16 16] 25 (0,0))]++[(e0, .cells #[I 6,I 0,I (-1), .bool false,I 0,I 0,I 0,I 0,nS,nS,nS,I 0,I 0,nS,nS,I 0, .slice (At a0 0) 1 1,I 9,I 1,I 1,I (-1), .bool false,I 0,I 0,I 3,I 3, .slice (At c0 0) 9 9,nS,nS,I 0,I 0,nS,nS,I 0,nS,I 9] 33 (0,0))]++[(f0, .cells #[I 2] 3 (0,0))]++g0++[(a0, .cells #[I 0,I 0] 27 (0,0))]++h0),rfl,⟨((RdT.blk (cs:=[[(d0, .cells #[I 4,I 4,I 9, .slice (At b0 0) 16 16] 25 (0,0))]]) (enc:=encPlane) (sz:=4) (xs:=[(⟨4,4,9,⟨(At b0 0),16,16,(List.replicate 16 0)⟩⟩:Plane)]) fR 1 0 rfl rfl rfl om)).of_mem mS,?_,((RdT.blk (cs:=[[(e0, .cells #[I 6,I 0,I (-1), .bool false,I 0,I 0,I 0,I 0,nS,nS,nS,I 0,I 0,nS,nS,I 0, .slice (At a0 0) 1 1,I 9,I 1,I 1,I (-1), .bool false,I 0,I 0,I 3,I 3, .slice (At c0 0) 9 9,nS,nS,I 0,I 0,nS,nS,I 0,nS,I 9] 33 (0,0))]]) (enc:=encStage) (sz:=18) (xs:=[(⟨6,0,-1,false,0,0,0,0,⟨none,0,0,[]⟩,⟨none,0,0,[]⟩,⟨none,0,0,[]⟩,0,0,⟨none,0,0,[]⟩,⟨none,0,0,[]⟩,0,⟨(At a0 0),1,1,[(⟨0,0⟩:POp)]⟩,9⟩:Stage),(⟨1,1,-1,false,0,0,3,3,⟨(At c0 0),9,9,(List.replicate 9 0)⟩,⟨none,0,0,[]⟩,⟨none,0,0,[]⟩,0,0,⟨none,0,0,[]⟩,⟨none,0,0,[]⟩,0,⟨none,0,0,[]⟩,9⟩:Stage)]) fR 2 0 rfl rfl rfl om)).of_mem mS,?_,((RdT.blk (cs:=[[(f0, .cells #[I 2] 3 (0,0))]]) (enc:=Go.E.encI) (sz:=1) (xs:=[2]) fR 1 0 rfl rfl rfl om)).of_mem mS⟩,by rfl,⟨rfl,rfl,rfl⟩,z0⟩
 ·intro z hz;rw [List.mem_singleton.1 hz];exact ⟨((m0.rdAt (cs:=[g0]) 0 rfl)).of_mem mS⟩
 ·intro z hz;rcases List.mem_cons.1 hz with rfl|hz
  ·exact ⟨RdT.nil (enc:=Go.E.encI) (sz:=1) fR _,RdT.nil (enc:=Go.E.encI) (sz:=1) fR _,RdT.nil (enc:=Go.E.encI) (sz:=1) fR _,RdT.nil (enc:=encTap) (sz:=2) fR _,(fun z hz=>by cases hz),RdT.nil (enc:=encTap) (sz:=2) fR _,(fun z hz=>by cases hz),((RdT.blk (cs:=[[(a0, .cells #[I 0,I 0] 27 (0,0))]]) (enc:=encPOp) (sz:=2) (xs:=[(⟨0,0⟩:POp)]) fR 1 0 rfl rfl rfl om)).of_mem mS⟩
  ·rw [List.mem_singleton.1 hz];exact ⟨((t0.rdAt (cs:=[h0]) 0 rfl)).of_mem mS,RdT.nil (enc:=Go.E.encI) (sz:=1) fR _,RdT.nil (enc:=Go.E.encI) (sz:=1) fR _,RdT.nil (enc:=encTap) (sz:=2) fR _,(fun z hz=>by cases hz),RdT.nil (enc:=encTap) (sz:=2) fR _,(fun z hz=>by cases hz),RdT.nil (enc:=encPOp) (sz:=2) fR _⟩
theorem l20_sane (hS:Sat W w (H::F)):
  Ro prog 7 #[] (.bool true) W w (H::F):=by
 refine callsA 62 func7 rfl<|sR<|pu1<|zS<|cX call11 (l20_blur hS) ?_
 rintro _ _ ⟨m0,_,rfl,s0,c0,⟨_,_,_⟩,t0⟩
 refine cX call5 (p20_low (F:=[]) m0 2 2 (s0.of_mem (mem_flat1 0 (by rfl))) om t0.flat) ?_
 rintro _ _ ⟨_,n0,_,h0,_,_,rfl,d0,i0,e0,u0⟩
 have v0:=u0.unflat2;have hn_az_13:=d0.len;have hl_az_13:=d0.le
 have a2:n0=8:=by have h:=congrArg List.length e0;rw [c0,bl2,List.length_map] at h;omega
 refine pu5<|zS<|cX call11 (l20_blur v0) ?_
 rintro _ _ ⟨j0,_,rfl,w0,o0,⟨_,_,_⟩,x0⟩
 refine cX call6 (p20_cells (F:=[]) j0 2 2 (w0.of_mem (mem_flat1 0 (by rfl))) om x0.flat) ?_
 rintro _ _ ⟨rfl,y0⟩
 have f0:=y0.unflat
 refine pu5<|zS<|pu3 ?_
 have z0:((lowC m0.v 2 2):Int)=0:=by rw [c0];exact bl1
 refine sFix 17 _ true (beq_iff_eq.2 z0)<|pu5 ?_
 have a1:((n0:Int):Int)=8:=by omega
 refine sFix 22 _ true (beq_iff_eq.2 a1)<|pu1<|gY<|sIdxO d0 7 7 runUnderlying38 sizeOf60 fun a0 _ _ g0 b1 _=>?_
 have hx4:=bl4;rw [<-c0,<-e0,List.getElem?_map,show h0[7]?=some a0 from g0] at hx4;simp only [Option.map_some,Option.some.injEq,Prod.mk.injEq] at hx4;obtain ⟨hy1,hy2,hy3⟩:=hx4;simp only [Task.v] at hy1 hy2 hy3;have hdl:=(i0 a0 (List.mem_of_getElem? g0)).deps.len
 refine pu1<|gY<|sLp f0 (b1.up 1 rfl) 6 (.slice a0.deps.a a0.deps.n a0.deps.k) (isAgg23 _)<|pu4 ?_
 have c1:((a0.deps.n:Int):Int)=4:=by omega
 refine sFix 30 _ true (beq_iff_eq.2 c1)<|pu1<|gY<|sIdxO d0 7 7 runUnderlying38 sizeOf60 fun d1 _ _ k0 e1 _=>?_
 obtain rfl:a0=d1:=Option.some.inj (g0.symm.trans k0)
 have hx4:=bl4;rw [<-c0,<-e0,List.getElem?_map,show h0[7]?=some a0 from k0] at hx4;simp only [Option.map_some,Option.some.injEq,Prod.mk.injEq] at hx4;obtain ⟨hy1,hy2,hy3⟩:=hx4;simp only [Task.v] at hy1 hy2 hy3;have hdl:=(i0 a0 (List.mem_of_getElem? k0)).deps.len
 refine pu1<|gY<|sLp f0 (e1.up 1 rfl) 7 (I a0.rows) (isAgg3 _)<|pu3 ?_
 have f1:(a0.rows:Int)=2:=by omega
 refine sFix 37 _ true (beq_iff_eq.2 f1)<|pu1<|gY<|sIdxO d0 7 7 runUnderlying38 sizeOf60 fun g1 _ _ l0 h1 _=>?_
 obtain rfl:a0=g1:=Option.some.inj (g0.symm.trans l0)
 have hx4:=bl4;rw [<-c0,<-e0,List.getElem?_map,show h0[7]?=some a0 from l0] at hx4;simp only [Option.map_some,Option.some.injEq,Prod.mk.injEq] at hx4;obtain ⟨hy1,hy2,hy3⟩:=hx4;simp only [Task.v] at hy1 hy2 hy3;have hdl:=(i0 a0 (List.mem_of_getElem? l0)).deps.len
 refine pu1<|gY<|sLp f0 (h1.up 1 rfl) 8 (I a0.scratch) (isAgg3 _)<|pu3 ?_
 have i1:(a0.scratch:Int)=128:=by omega
 refine sFix 44 _ true (beq_iff_eq.2 i1)<|pu4 ?_
 have j1:((lowC j0.v 2 2):Int)=0:=by rw [o0];exact bl1
 refine sFix 48 _ true (beq_iff_eq.2 j1)<|pu4 ?_
 have k1:((celV j0.v 2 2):Int)=48:=by rw [o0];exact bl3
 refine sFix 52 _ true (beq_iff_eq.2 k1)<|gY<|cX call11 (l20_blur f0) ?_
 rintro _ _ ⟨l1,_,rfl,p0,m1,⟨_,_,_⟩,q0⟩
 refine pu1<|gY<|sIdx p0.stages 0 runUnderlying35 sizeOf33 fun b0 _ _ r0 n1=>?_
 have hx5:b0.v=stgAt blurV.stages 0 0:=by rw [<-m1];unfold stgAt Job.v;simp [List.getElem?_map,show l1.stages.l[0]?=some b0 from r0]
 exact gY<|sLpA q0 (n1.up 0 rfl) 0 (encStage b0) (isAgg33 _) (sizeOf33 _)<|pu2<|gY<|cR call12 (p20_scratch b0 (⟨4,4,9⟩:Shape) 0 (⟨0,0,2,2⟩:Rct) ((p0.stagesD b0 (List.mem_of_getElem? r0)).of_mem (mem_flat1 0 (by rfl))) q0.flat) fun _ o1=>pu3<|zE<|retT [.bool (((scrV b0.v (⟨4,4,9⟩:Shape) 0 (⟨0,0,2,2⟩:Rct)):Int)==16)]<|⟨by rw [hx5,bl5];rfl,(o1.drops [0,0,0,0,0])⟩
def limP:StageV:=⟨6,0,-1,false,0,0,0,0,[],[],[],0,0,[],[],0,[⟨0,0⟩],9⟩
def limI:StageV:=⟨5,0,-1,false,0,0,0,0,[],[],[],0,0,[],[],0,[],0⟩
def lim0:JobV:=⟨[⟨64,64,9,List.replicate 4096 0⟩],[limP],[1],0⟩
def lim1:JobV:=⟨[⟨64,64,9,List.replicate 4096 0⟩],[limP,limI],[1],0⟩
theorem li1:lowC lim0 1 1=0:=by decide+kernel
theorem li2:celV lim0 1 1=8192:=by decide+kernel
theorem li3:(lowV lim0 1 1).length=4096:=by
  have hs:(shpV lim0).2.2=0:=by decide+kernel
  have ht:(layV lim0 1 1).total=4096:=by decide+kernel
  have hg:=lay_ok (shp_ok hs) (show tileP 1 1 by decide)
  have h:=tasks_sum hg (layV lim0 1 1).od (fun _ h=>h)
  have e:((layV lim0 1 1).all.length:Int)=(layV lim0 1 1).total:=h
  unfold lowV;rw [if_pos li1];omega
theorem lj1:lowC lim1 1 1=13:=by decide+kernel
theorem lj2:celV lim1 1 1=0:=by unfold celV;rw [lj1];rfl
theorem lj3:lowV lim1 1 1=[]:=by unfold lowV;rw [lj1];rfl
theorem l20_limits (W w:World) (H:Chunk) (F:List Chunk) (n:Int) (_hn:-9223372036854775808<=n/\n<=9223372036854775807) (hS:Sat W w (H::F)):
  Calls prog 3 #[I n] w fun e w'=>e= .returned (.bool true)/\Sat W w' (H::F):=by
 refine callsA 80 func3 rfl<|sR<|pu1<|zS<|pu1<|cX call4 (mod_ok n 2 om om hS) ?_
 rintro _ _ ⟨w0,rfl,_,x0⟩
 refine pu1<|zS<|sMake (kl:= .i64) (kc:= .i64) (enc:=Go.E.encI) (sz:=1) (nb:=8) x0 0 4096 4096 (rfl:(4096:Int)=((4096:Nat):Int)) underlying23 (i:=Try.t3) kr fR fun b0 _ _ h0 y0=>pu1<|sAlloc y0 zeroValue25 fun _ _ z0=>?_
 refine sTw z0 0 [I 64,I 64,I 9, .slice (At b0 0) 4096 4096] sizeOf25 fun _ a1=>zS<|pu1<|sBS a1 #[I 0,I 0] runUnderlying28 sizeOf27 zeroValue27 fun a0 _ b1=>pu1<|sAlloc b1 zeroValue33 fun _ _ c1=>?_
 refine sT c1 0 0 (.agg (encStage {zStage with kind:=6,b:=-1,ops:=⟨(At a0 0),1,1,[]⟩,max_:=9}).toArray) (encStage {zStage with kind:=6,b:=-1,ops:=⟨(At a0 0),1,1,[]⟩,max_:=9}) (encStage {zStage with kind:=6,b:=-1,ops:=⟨(At a0 0),1,1,[]⟩,max_:=9}).toArray sizeOf33 fun _ k0=>zS<|lA k0 2 0 4 (isAgg25 _) (sizeOf25 _)<|sBS k0 #[I 64,I 64,I 9, .slice (At b0 0) 4096 4096] runUnderlying34 sizeOf25 zeroValue25 fun c0 _ l0=>lA l0 1 0 18 (isAgg33 _) (sizeOf33 _)<|sBS l0 (encStage {zStage with kind:=6,b:=-1,ops:=⟨(At a0 0),1,1,[]⟩,max_:=9}).toArray runUnderlying35 sizeOf33 zeroValue33 fun e0 _ d1=>?_
 refine sBS d1 #[I 1] runUnderlying23 sizeOf3 zeroValue3 fun d0 _ e1=>pu1<|sAlloc e1 zeroValue37 fun _ _ f1=>?_
 refine sTw f1 0 [.slice (At c0 0) 1 1, .slice (At e0 0) 1 1, .slice (At d0 0) 1 1,I 0] sizeOf37 fun _ i0=>zQ<|pu2<|nT<|cE w0 1 (fun j0=>?_) (fun j0=>?_)
 rotate_left
 ·refine kS<|lA i0 0 0 4 (isAgg37 _) (sizeOf37 _) ?_
  refine cX call5 (p20_low (F:=[]) (⟨⟨(At c0 0),1,1,[(⟨64,64,9,⟨(At b0 0),4096,4096,(List.replicate 4096 0)⟩⟩:Plane)]⟩,⟨(At e0 0),1,1,[(⟨6,0,-1,false,0,0,0,0,⟨none,0,0,[]⟩,⟨none,0,0,[]⟩,⟨none,0,0,[]⟩,0,0,⟨none,0,0,[]⟩,⟨none,0,0,[]⟩,0,⟨(At a0 0),1,1,[(⟨0,0⟩:POp)]⟩,9⟩:Stage)]⟩,⟨(At d0 0),1,1,[1]⟩,0⟩:Job) 1 1 ⟨(RdT.flat (RdT.blk (enc:=encPlane) (sz:=4) (xs:=[(⟨64,64,9,⟨(At b0 0),4096,4096,(List.replicate 4096 0)⟩⟩:Plane)]) (fun _=>(by rfl)) 1 3 rfl rfl rfl om)),(fun z hz=>by rw [List.mem_singleton.1 hz];exact ⟨(RdT.flat (h0.rdAt 7 (by rfl)))⟩),(RdT.flat (RdT.blk (enc:=encStage) (sz:=18) (xs:=[(⟨6,0,-1,false,0,0,0,0,⟨none,0,0,[]⟩,⟨none,0,0,[]⟩,⟨none,0,0,[]⟩,0,0,⟨none,0,0,[]⟩,⟨none,0,0,[]⟩,0,⟨(At a0 0),1,1,[(⟨0,0⟩:POp)]⟩,9⟩:Stage)]) (fun _=>(by rfl)) 1 2 rfl rfl rfl om)),(fun z hz=>by rw [List.mem_singleton.1 hz];exact ⟨RdT.nil (enc:=Go.E.encI) (sz:=1) fR _,RdT.nil (enc:=Go.E.encI) (sz:=1) fR _,RdT.nil (enc:=Go.E.encI) (sz:=1) fR _,RdT.nil (enc:=encTap) (sz:=2) fR _,(fun z hz=>by cases hz),RdT.nil (enc:=encTap) (sz:=2) fR _,(fun z hz=>by cases hz),(RdT.flat (RdT.blk (enc:=encPOp) (sz:=2) (xs:=[(⟨0,0⟩:POp)]) (fun _=>(by rfl)) 1 5 rfl rfl rfl om))⟩),(RdT.flat (RdT.blk (enc:=Go.E.encI) (sz:=1) (xs:=[1]) (fun _=>(by rfl)) 1 1 rfl rfl rfl om))⟩ (by dsimp only;omega) i0.flat) ?_
  rintro _ _ ⟨_,m0,_,_,_,_,rfl,n0,_,g1,h1⟩
  have o0:=h1.unflat2;have hn_az_86:=n0.len;have hl_az_86:=n0.le
  have hc:lowC (⟨⟨(At c0 0),1,1,[(⟨64,64,9,⟨(At b0 0),4096,4096,(List.replicate 4096 0)⟩⟩:Plane)]⟩,⟨(At e0 0),1,1,[(⟨6,0,-1,false,0,0,0,0,⟨none,0,0,[]⟩,⟨none,0,0,[]⟩,⟨none,0,0,[]⟩,0,0,⟨none,0,0,[]⟩,⟨none,0,0,[]⟩,0,⟨(At a0 0),1,1,[(⟨0,0⟩:POp)]⟩,9⟩:Stage)]⟩,⟨(At d0 0),1,1,[1]⟩,0⟩:Job).v 1 1=0:=li1
  have hce:celV (⟨⟨(At c0 0),1,1,[(⟨64,64,9,⟨(At b0 0),4096,4096,(List.replicate 4096 0)⟩⟩:Plane)]⟩,⟨(At e0 0),1,1,[(⟨6,0,-1,false,0,0,0,0,⟨none,0,0,[]⟩,⟨none,0,0,[]⟩,⟨none,0,0,[]⟩,0,0,⟨none,0,0,[]⟩,⟨none,0,0,[]⟩,0,⟨(At a0 0),1,1,[(⟨0,0⟩:POp)]⟩,9⟩:Stage)]⟩,⟨(At d0 0),1,1,[1]⟩,0⟩:Job).v 1 1=8192:=li2
  have hln:m0=4096:=by have h:=congrArg List.length g1;rw [List.length_map,hn_az_86] at h;exact h.trans (li3)
  refine pu5<|zS<|lA o0 2 0 4 (isAgg37 _) (sizeOf37 _) ?_
  refine cX call6 (p20_cells (F:=[]) (⟨⟨(At c0 0),1,1,[(⟨64,64,9,⟨(At b0 0),4096,4096,(List.replicate 4096 0)⟩⟩:Plane)]⟩,⟨(At e0 0),1,1,[(⟨6,0,-1,false,0,0,0,0,⟨none,0,0,[]⟩,⟨none,0,0,[]⟩,⟨none,0,0,[]⟩,0,0,⟨none,0,0,[]⟩,⟨none,0,0,[]⟩,0,⟨(At a0 0),1,1,[(⟨0,0⟩:POp)]⟩,9⟩:Stage)]⟩,⟨(At d0 0),1,1,[1]⟩,0⟩:Job) 1 1 ⟨(RdT.flat (RdT.blk (enc:=encPlane) (sz:=4) (xs:=[(⟨64,64,9,⟨(At b0 0),4096,4096,(List.replicate 4096 0)⟩⟩:Plane)]) (fun _=>(by rfl)) 1 5 rfl rfl rfl om)),(fun z hz=>by rw [List.mem_singleton.1 hz];exact ⟨(RdT.flat (h0.rdAt 9 (by rfl)))⟩),(RdT.flat (RdT.blk (enc:=encStage) (sz:=18) (xs:=[(⟨6,0,-1,false,0,0,0,0,⟨none,0,0,[]⟩,⟨none,0,0,[]⟩,⟨none,0,0,[]⟩,0,0,⟨none,0,0,[]⟩,⟨none,0,0,[]⟩,0,⟨(At a0 0),1,1,[(⟨0,0⟩:POp)]⟩,9⟩:Stage)]) (fun _=>(by rfl)) 1 4 rfl rfl rfl om)),(fun z hz=>by rw [List.mem_singleton.1 hz];exact ⟨RdT.nil (enc:=Go.E.encI) (sz:=1) fR _,RdT.nil (enc:=Go.E.encI) (sz:=1) fR _,RdT.nil (enc:=Go.E.encI) (sz:=1) fR _,RdT.nil (enc:=encTap) (sz:=2) fR _,(fun z hz=>by cases hz),RdT.nil (enc:=encTap) (sz:=2) fR _,(fun z hz=>by cases hz),(RdT.flat (RdT.blk (enc:=encPOp) (sz:=2) (xs:=[(⟨0,0⟩:POp)]) (fun _=>(by rfl)) 1 7 rfl rfl rfl om))⟩),(RdT.flat (RdT.blk (enc:=Go.E.encI) (sz:=1) (xs:=[1]) (fun _=>(by rfl)) 1 3 rfl rfl rfl om))⟩ (by dsimp only;omega) o0.flat) ?_
  rintro _ _ ⟨rfl,i1⟩
  have j1:=i1.unflat
  refine pu5<|zQ<|pu2<|nT<|cF _ (beq_eq_false_iff_ne.2 j0)<|kS<|pu3 ?_
  have p0:((lowC (⟨⟨(At c0 0),1,1,[(⟨64,64,9,⟨(At b0 0),4096,4096,(List.replicate 4096 0)⟩⟩:Plane)]⟩,⟨(At e0 0),1,1,[(⟨6,0,-1,false,0,0,0,0,⟨none,0,0,[]⟩,⟨none,0,0,[]⟩,⟨none,0,0,[]⟩,0,0,⟨none,0,0,[]⟩,⟨none,0,0,[]⟩,0,⟨(At a0 0),1,1,[(⟨0,0⟩:POp)]⟩,9⟩:Stage)]⟩,⟨(At d0 0),1,1,[1]⟩,0⟩:Job).v 1 1):Int)=0:=by omega
  refine sFix 64 _ true (beq_iff_eq.2 p0)<|pu4<|sFix 68 _ true (beq_iff_eq.2 p0)<|pu5 ?_
  have k1:((m0:Int):Int)=4096:=by omega
  refine sFix 73 _ true (beq_iff_eq.2 k1)<|pu4 ?_
  have l1:((celV (⟨⟨(At c0 0),1,1,[(⟨64,64,9,⟨(At b0 0),4096,4096,(List.replicate 4096 0)⟩⟩:Plane)]⟩,⟨(At e0 0),1,1,[(⟨6,0,-1,false,0,0,0,0,⟨none,0,0,[]⟩,⟨none,0,0,[]⟩,⟨none,0,0,[]⟩,0,0,⟨none,0,0,[]⟩,⟨none,0,0,[]⟩,0,⟨(At a0 0),1,1,[(⟨0,0⟩:POp)]⟩,9⟩:Stage)]⟩,⟨(At d0 0),1,1,[1]⟩,0⟩:Job).v 1 1):Int)=8192:=by omega
  refine sFix 77 _ true (beq_iff_eq.2 l1)<|gY<|cR call7 (l20_sane j1.flat) fun _ m1=>pu2<|zE<|retT [.bool true] ?_
  have n1:=(m1.pick 10 rfl)
  have o1:=n1.dropAt 1 rfl
  have p1:=o1.dropAt 1 rfl
  have q1:=p1.dropAt 1 rfl
  have r1:=q1.dropAt 1 rfl
  have s1:=r1.dropAt 1 rfl
  have t1:=s1.dropAt 1 rfl
  have u1:=t1.dropAt 1 rfl
  have v1:=u1.dropAt 1 rfl
  have w1:=v1.dropAt 1 rfl
  exact ⟨rfl,(w1.dropAt 1 rfl)⟩
 refine rE<|pu1<|sL i0 0 1 (.slice (At e0 0) 1 1) (isAgg35 _)<|pu1<|sBS i0 (encStage {zStage with kind:=5,b:=-1}).toArray runUnderlying35 sizeOf33 zeroValue33 fun _ _ y1=>?_
 refine sApp (nb:=240) y1 (OwnT.blk (enc:=encStage) (sz:=18) (b:=e0) (c:=#[I 6,I 0,I (-1), .bool false,I 0,I 0,I 0,I 0,nS,nS,nS,I 0,I 0,nS,nS,I 0, .slice (At a0 0) 1 1,I 9]) (E:=33) (xs:=[(⟨6,0,-1,false,0,0,0,0,⟨none,0,0,[]⟩,⟨none,0,0,[]⟩,⟨none,0,0,[]⟩,0,0,⟨none,0,0,[]⟩,⟨none,0,0,[]⟩,0,⟨(At a0 0),1,1,[(⟨0,0⟩:POp)]⟩,9⟩:Stage)]) fR 1 rfl rfl rfl om) 3 (RdT.blk (enc:=encStage) (sz:=18) (xs:=[(⟨5,0,-1,false,0,0,0,0,⟨none,0,0,[]⟩,⟨none,0,0,[]⟩,⟨none,0,0,[]⟩,0,0,⟨none,0,0,[]⟩,⟨none,0,0,[]⟩,0,⟨none,0,0,[]⟩,0⟩:Stage)]) fR 1 0 rfl rfl rfl om) underlying35 (i:=Try.t33) kr fR ?_
 intro f0 g0 _ _ q0 a2
 refine pu1<|tW a2 1 1 (.slice f0 (1+1) g0) sizeOf35 fun _ r0=>zS<|lA r0 1 0 4 (isAgg37 _) (sizeOf37 _) ?_
 refine cX call5 (p20_low (F:=[]) (⟨⟨(At c0 0),1,1,[(⟨64,64,9,⟨(At b0 0),4096,4096,(List.replicate 4096 0)⟩⟩:Plane)]⟩,⟨f0,(1+1),g0,([(⟨6,0,-1,false,0,0,0,0,⟨none,0,0,[]⟩,⟨none,0,0,[]⟩,⟨none,0,0,[]⟩,0,0,⟨none,0,0,[]⟩,⟨none,0,0,[]⟩,0,⟨(At a0 0),1,1,[(⟨0,0⟩:POp)]⟩,9⟩:Stage)]++[(⟨5,0,-1,false,0,0,0,0,⟨none,0,0,[]⟩,⟨none,0,0,[]⟩,⟨none,0,0,[]⟩,0,0,⟨none,0,0,[]⟩,⟨none,0,0,[]⟩,0,⟨none,0,0,[]⟩,0⟩:Stage)])⟩,⟨(At d0 0),1,1,[1]⟩,0⟩:Job) 1 1 ⟨(RdT.flat (RdT.blk (enc:=encPlane) (sz:=4) (xs:=[(⟨64,64,9,⟨(At b0 0),4096,4096,(List.replicate 4096 0)⟩⟩:Plane)]) (fun _=>(by rfl)) 1 4 rfl rfl rfl om)),(fun z hz=>by rw [List.mem_singleton.1 hz];exact ⟨(RdT.flat (h0.rdAt 8 (by rfl)))⟩),(RdT.flat (q0.rdAt 3 (by rfl))),(fun z hz=>(List.mem_append.1 hz).elim (fun h=>by rw [List.mem_singleton.1 h];exact ⟨RdT.nil (enc:=Go.E.encI) (sz:=1) fR _,RdT.nil (enc:=Go.E.encI) (sz:=1) fR _,RdT.nil (enc:=Go.E.encI) (sz:=1) fR _,RdT.nil (enc:=encTap) (sz:=2) fR _,(fun z hz=>by cases hz),RdT.nil (enc:=encTap) (sz:=2) fR _,(fun z hz=>by cases hz),(RdT.flat (RdT.blk (enc:=encPOp) (sz:=2) (xs:=[(⟨0,0⟩:POp)]) (fun _=>(by rfl)) 1 6 rfl rfl rfl om))⟩) (fun h=>by rw [List.mem_singleton.1 h];exact ⟨RdT.nil (enc:=Go.E.encI) (sz:=1) fR _,RdT.nil (enc:=Go.E.encI) (sz:=1) fR _,RdT.nil (enc:=Go.E.encI) (sz:=1) fR _,RdT.nil (enc:=encTap) (sz:=2) fR _,(fun z hz=>by cases hz),RdT.nil (enc:=encTap) (sz:=2) fR _,(fun z hz=>by cases hz),RdT.nil (enc:=encPOp) (sz:=2) fR _⟩)),(RdT.flat (RdT.blk (enc:=Go.E.encI) (sz:=1) (xs:=[1]) (fun _=>(by rfl)) 1 2 rfl rfl rfl om))⟩ (by dsimp only;omega) r0.flat) ?_
 rintro _ _ ⟨_,s0,_,_,_,_,rfl,t0,_,b2,c2⟩
 have u0:=c2.unflat2;have hn_az_53:=t0.len;have hl_az_53:=t0.le
 have hc:lowC (⟨⟨(At c0 0),1,1,[(⟨64,64,9,⟨(At b0 0),4096,4096,(List.replicate 4096 0)⟩⟩:Plane)]⟩,⟨f0,(1+1),g0,([(⟨6,0,-1,false,0,0,0,0,⟨none,0,0,[]⟩,⟨none,0,0,[]⟩,⟨none,0,0,[]⟩,0,0,⟨none,0,0,[]⟩,⟨none,0,0,[]⟩,0,⟨(At a0 0),1,1,[(⟨0,0⟩:POp)]⟩,9⟩:Stage)]++[(⟨5,0,-1,false,0,0,0,0,⟨none,0,0,[]⟩,⟨none,0,0,[]⟩,⟨none,0,0,[]⟩,0,0,⟨none,0,0,[]⟩,⟨none,0,0,[]⟩,0,⟨none,0,0,[]⟩,0⟩:Stage)])⟩,⟨(At d0 0),1,1,[1]⟩,0⟩:Job).v 1 1=13:=lj1
 have hce:celV (⟨⟨(At c0 0),1,1,[(⟨64,64,9,⟨(At b0 0),4096,4096,(List.replicate 4096 0)⟩⟩:Plane)]⟩,⟨f0,(1+1),g0,([(⟨6,0,-1,false,0,0,0,0,⟨none,0,0,[]⟩,⟨none,0,0,[]⟩,⟨none,0,0,[]⟩,0,0,⟨none,0,0,[]⟩,⟨none,0,0,[]⟩,0,⟨(At a0 0),1,1,[(⟨0,0⟩:POp)]⟩,9⟩:Stage)]++[(⟨5,0,-1,false,0,0,0,0,⟨none,0,0,[]⟩,⟨none,0,0,[]⟩,⟨none,0,0,[]⟩,0,0,⟨none,0,0,[]⟩,⟨none,0,0,[]⟩,0,⟨none,0,0,[]⟩,0⟩:Stage)])⟩,⟨(At d0 0),1,1,[1]⟩,0⟩:Job).v 1 1=0:=lj2
 have hln:s0=0:=by have h:=congrArg List.length b2;rw [List.length_map,hn_az_53] at h;exact h.trans (congrArg List.length lj3)
 refine pu5<|zS<|lA u0 3 0 4 (isAgg37 _) (sizeOf37 _) ?_
 refine cX call6 (p20_cells (F:=[]) (⟨⟨(At c0 0),1,1,[(⟨64,64,9,⟨(At b0 0),4096,4096,(List.replicate 4096 0)⟩⟩:Plane)]⟩,⟨f0,(1+1),g0,([(⟨6,0,-1,false,0,0,0,0,⟨none,0,0,[]⟩,⟨none,0,0,[]⟩,⟨none,0,0,[]⟩,0,0,⟨none,0,0,[]⟩,⟨none,0,0,[]⟩,0,⟨(At a0 0),1,1,[(⟨0,0⟩:POp)]⟩,9⟩:Stage)]++[(⟨5,0,-1,false,0,0,0,0,⟨none,0,0,[]⟩,⟨none,0,0,[]⟩,⟨none,0,0,[]⟩,0,0,⟨none,0,0,[]⟩,⟨none,0,0,[]⟩,0,⟨none,0,0,[]⟩,0⟩:Stage)])⟩,⟨(At d0 0),1,1,[1]⟩,0⟩:Job) 1 1 ⟨(RdT.flat (RdT.blk (enc:=encPlane) (sz:=4) (xs:=[(⟨64,64,9,⟨(At b0 0),4096,4096,(List.replicate 4096 0)⟩⟩:Plane)]) (fun _=>(by rfl)) 1 6 rfl rfl rfl om)),(fun z hz=>by rw [List.mem_singleton.1 hz];exact ⟨(RdT.flat (h0.rdAt 10 (by rfl)))⟩),(RdT.flat (q0.rdAt 5 (by rfl))),(fun z hz=>(List.mem_append.1 hz).elim (fun h=>by rw [List.mem_singleton.1 h];exact ⟨RdT.nil (enc:=Go.E.encI) (sz:=1) fR _,RdT.nil (enc:=Go.E.encI) (sz:=1) fR _,RdT.nil (enc:=Go.E.encI) (sz:=1) fR _,RdT.nil (enc:=encTap) (sz:=2) fR _,(fun z hz=>by cases hz),RdT.nil (enc:=encTap) (sz:=2) fR _,(fun z hz=>by cases hz),(RdT.flat (RdT.blk (enc:=encPOp) (sz:=2) (xs:=[(⟨0,0⟩:POp)]) (fun _=>(by rfl)) 1 8 rfl rfl rfl om))⟩) (fun h=>by rw [List.mem_singleton.1 h];exact ⟨RdT.nil (enc:=Go.E.encI) (sz:=1) fR _,RdT.nil (enc:=Go.E.encI) (sz:=1) fR _,RdT.nil (enc:=Go.E.encI) (sz:=1) fR _,RdT.nil (enc:=encTap) (sz:=2) fR _,(fun z hz=>by cases hz),RdT.nil (enc:=encTap) (sz:=2) fR _,(fun z hz=>by cases hz),RdT.nil (enc:=encPOp) (sz:=2) fR _⟩)),(RdT.flat (RdT.blk (enc:=Go.E.encI) (sz:=1) (xs:=[1]) (fun _=>(by rfl)) 1 4 rfl rfl rfl om))⟩ (by dsimp only;omega) u0.flat) ?_
 rintro _ _ ⟨rfl,d2⟩
 have e2:=d2.unflat
 refine pu5<|zQ<|pu2<|nT<|cT _ (beq_iff_eq.2 j0)<|sR<|pu3 ?_
 have v0:((lowC (⟨⟨(At c0 0),1,1,[(⟨64,64,9,⟨(At b0 0),4096,4096,(List.replicate 4096 0)⟩⟩:Plane)]⟩,⟨f0,(1+1),g0,([(⟨6,0,-1,false,0,0,0,0,⟨none,0,0,[]⟩,⟨none,0,0,[]⟩,⟨none,0,0,[]⟩,0,0,⟨none,0,0,[]⟩,⟨none,0,0,[]⟩,0,⟨(At a0 0),1,1,[(⟨0,0⟩:POp)]⟩,9⟩:Stage)]++[(⟨5,0,-1,false,0,0,0,0,⟨none,0,0,[]⟩,⟨none,0,0,[]⟩,⟨none,0,0,[]⟩,0,0,⟨none,0,0,[]⟩,⟨none,0,0,[]⟩,0,⟨none,0,0,[]⟩,0⟩:Stage)])⟩,⟨(At d0 0),1,1,[1]⟩,0⟩:Job).v 1 1):Int)=13:=by omega
 refine sFix 46 _ true (beq_iff_eq.2 v0)<|pu4<|sFix 50 _ true (beq_iff_eq.2 v0)<|pu5 ?_
 have f2:((s0:Int):Int)=0:=by omega
 refine sFix 55 _ true (beq_iff_eq.2 f2)<|pu4 ?_
 have g2:((celV (⟨⟨(At c0 0),1,1,[(⟨64,64,9,⟨(At b0 0),4096,4096,(List.replicate 4096 0)⟩⟩:Plane)]⟩,⟨f0,(1+1),g0,([(⟨6,0,-1,false,0,0,0,0,⟨none,0,0,[]⟩,⟨none,0,0,[]⟩,⟨none,0,0,[]⟩,0,0,⟨none,0,0,[]⟩,⟨none,0,0,[]⟩,0,⟨(At a0 0),1,1,[(⟨0,0⟩:POp)]⟩,9⟩:Stage)]++[(⟨5,0,-1,false,0,0,0,0,⟨none,0,0,[]⟩,⟨none,0,0,[]⟩,⟨none,0,0,[]⟩,0,0,⟨none,0,0,[]⟩,⟨none,0,0,[]⟩,0,⟨none,0,0,[]⟩,0⟩:Stage)])⟩,⟨(At d0 0),1,1,[1]⟩,0⟩:Job).v 1 1):Int)=0:=by omega
 refine sFix 59 _ true (beq_iff_eq.2 g2)<|gY<|cR call7 (l20_sane e2.flat) fun _ h2=>pu2<|zR<|retT [.bool true] ?_
 have i2:=(h2.pick 11 rfl)
 have j2:=i2.dropAt 1 rfl
 have k2:=j2.dropAt 1 rfl
 have l2:=k2.dropAt 1 rfl
 have m2:=l2.dropAt 1 rfl
 have n2:=m2.dropAt 1 rfl
 have o2:=n2.dropAt 1 rfl
 have p2:=o2.dropAt 1 rfl
 have q2:=p2.dropAt 1 rfl
 have r2:=q2.dropAt 1 rfl
 have s2:=r2.dropAt 1 rfl
 exact ⟨rfl,(s2.dropAt 1 rfl)⟩
end Go.Proofs.Ytdingplbadblpaa
