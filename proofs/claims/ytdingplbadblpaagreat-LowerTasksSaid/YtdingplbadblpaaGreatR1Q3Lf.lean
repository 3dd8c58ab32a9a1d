import Derived.WalkKit
import Derived.Deep.Quiet
import Derived.KernelRfl
import Derived.Laws.BytesString
import Derived.Laws.Shifts
import Derived.Laws.IdiomStrings
import Derived.OpenShut
import Derived.Test.YtdingplbadblpaaGreatProg
import Derived.Shelf.SortG.Plain
import Derived.Shelf.SortG.SortNone
import Derived.Shelf.SlicesG.CompactI
import Derived.Test.YtdingplbadblpaaGreatR1Q3Le
namespace Go.Proofs.YtdingplbadblpaaGreat
open Go Go.E Go.Proofs.Tryz
set_option linter.all false
set_option maxRecDepth 100000
set_option maxHeartbeats 2000000
variable {W w:World} {H:Chunk} {F:List Chunk}
theorem take_split {l:List Int} {i:Nat} {x:Int} (h:l[i]?=some x):l=l.take i++x::l.drop (i+1):=by
  obtain ⟨hl,e⟩:=List.getElem?_eq_some_iff.1 h
  conv=>lhs;rw [<-List.take_append_drop i l,List.drop_eq_getElem_cons hl,e]
theorem layw_step {L:Lay} (g:LayG L) {i:Nat} {nd tot c:Int} {fl cl:List Int} (h:L.od[i]?=some nd) (hF:∀n∈L.od.take i,fl[n.toNat]?=some (L.first n)/\cl[n.toNat]?=some (L.cnt n)) (ht:tot=((L.od.take i).map L.cnt).sum) (hc:c=L.cnt nd)
  (h1:nd.toNat<fl.length) (h2:nd.toNat<cl.length):∀n∈L.od.take (i+1),(fl.set nd.toNat tot)[n.toNat]?=some (L.first n)/\(cl.set nd.toNat c)[n.toNat]?=some (L.cnt n):=by
 intro n hn
 have hfa:=g.first_at (take_split h)
 rw [List.take_add_one,h,Option.toList_some] at hn
 rcases List.mem_append.1 hn with hn|hn
 ·have hne:n≠nd:=fun e=>hfa.2 (e▸hn)
  have r1:=g.rng n (List.mem_of_mem_take hn);have r2:=g.rng nd (List.mem_of_getElem? h);have r3:=g.ni
  rw [List.getElem?_set,if_neg om,List.getElem?_set,if_neg om]
  exact hF n hn
 ·simp only [List.mem_singleton] at hn
  subst hn
  rw [List.getElem?_set,if_pos rfl,if_pos h1,List.getElem?_set,if_pos rfl,if_pos h2,hfa.1,ht,hc]
  exact ⟨rfl,rfl⟩
theorem sum_take {f:Int->Int} {l:List Int} {i:Nat} {x:Int} (h:l[i]?=some x):((l.take (i+1)).map f).sum=((l.take i).map f).sum+f x:=by
  rw [List.take_add_one,h,Option.toList_some,List.map_append,List.sum_append];simp
theorem tasks_len {L:Lay} (g:LayG L) {x:Int} (hx:x∈L.od):((L.tasks x).length:Int)=L.cnt x:=by
  have h:=(g.grid hx).2.2
  unfold Lay.tasks Lay.cnt
  rw [List.length_append,List.length_map,upto_len]
  split<;>simp<;>omega
theorem take_sum_le {L:Lay} (g:LayG L) (i:Nat):0<=((L.od.take i).map L.cnt).sum/\((L.od.take i).map L.cnt).sum<=L.total:=by
  have h1:=sum_nn (f:=L.cnt) (L.od.take i) (fun y hy=>by have:=g.cntb (List.mem_of_mem_take hy);omega)
  have h2:=sum_nn (f:=L.cnt) (L.od.drop i) (fun y hy=>by have:=g.cntb (List.mem_of_mem_drop hy);omega)
  have h3:L.total=((L.od.take i).map L.cnt).sum+((L.od.drop i).map L.cnt).sum:=by
    unfold Lay.total
    rw [<-List.sum_append,<-List.map_append,List.take_append_drop]
  omega
theorem sh_bd {L:Lay} (g:LayG L) {i:Nat} {m:Shape} (h:L.sh[i]?=some m):szP m:=by
  have hl:=(List.getElem?_eq_some_iff.1 h).1
  have:=g.sz (i:Int) (by omega) (by have:=g.len;omega)
  unfold shpAt at this
  rw [show ((i:Int)).toNat=i by omega,h] at this
  exact this
theorem cellsum_le {L:Lay} (g:LayG L):∀i:Nat,i<=L.sh.length->0<=((L.sh.take i).map fun m=>m.w*m.h).sum/\((L.sh.take i).map fun m=>m.w*m.h).sum<=4096*i
  |0,_=>by simp
  |i+1,hi=>by
    have ih:=cellsum_le g i (by omega)
    have hx:L.sh[i]?=some L.sh[i]:=List.getElem?_eq_getElem (by omega)
    have hz:=sh_bd g hx
    unfold szP at hz
    have hm:0<=L.sh[i].w*L.sh[i].h:=Int.mul_nonneg (by omega) (by omega)
    rw [List.take_add_one,hx,Option.toList_some,List.map_append,List.sum_append]
    simp only [List.map_cons,List.map_nil,List.sum_cons,List.sum_nil]
    push_cast
    omega
def histC (L:Lay) (n:Int):Int:=if (L.st n).kind=4 then (L.st n).bins*(L.cnt n-1) else 0
theorem hist_bd {L:Lay} (g:LayG L) {n:Int} (hn:n∈L.od):0<=histC L n/\histC L n<=2097152:=by
  unfold histC
  split
  · rename_i hk
    have hb:=g.byt hn
    unfold bytOK at hb
    have hc:=g.cntb hn
    have:=mul_bd (a:=(L.st n).bins) (b:=L.cnt n-1) (A:=128) (B:=16384) (by omega) (by omega)
    omega
  · omega
theorem histsum_le {L:Lay} (g:LayG L):∀i:Nat,i<=L.od.length->0<=((L.od.take i).map (histC L)).sum/\((L.od.take i).map (histC L)).sum<=2097152*i
  |0,_=>by simp
  |i+1,hi=>by
    have ih:=histsum_le g i (by omega)
    have hx:L.od[i]?=some L.od[i]:=List.getElem?_eq_getElem (by omega)
    have hz:=hist_bd g (List.mem_of_getElem? hx)
    rw [sum_take hx]
    push_cast
    omega
theorem p20_plan (p:Job) (tw:Int) (th:Int) (hp:Job.Ok [H] p) (hb:p.inputs.n<=1000000/\p.stages.n<=1000000/\p.outputs.n<=1000000) (hS:Sat W w (H::F)):
  Calls prog 46 #[.agg (encJob p).toArray,I tw,I th] w fun e w'=>(¬lowC p.v tw th=0/\e= .returned (.tuple #[.pointer none,I (lowC p.v tw th)])/\Sat W w' (H::F))\/(lowC p.v tw th=0/\∃(b:Nat) (x:LayM) (G:Chunk),e= .returned (.tuple #[Pt b 0,I 0])/\LayM.Ok [G++H] x/\x.L=layV p.v tw th/\LayG x.L/\x.jobStages.n=x.jobStages.l.length/\LayW x/\x.L.total<=4096/\Sat W w' ([(b, .cells (encLayM x).toArray 97 (0,0))]::(G++H)::F)):=by
 have hl_p_inputs:=hp.inputs.le;have hn_p_inputs:=hp.inputs.len
 have hl_p_stages:=hp.stages.le;have hn_p_stages:=hp.stages.len
 have hl_p_outputs:=hp.outputs.le;have hn_p_outputs:=hp.outputs.len
 have hpi:p.v.inputs.length=p.inputs.n:=by simp [Job.v,hn_p_inputs]
 have hps:p.v.stages.length=p.stages.n:=by simp [Job.v,hn_p_stages]
 refine callsA 120 func46 rfl<|sR<|sBox hS (.agg (encJob p).toArray) (encJob p).toArray fun a1 _ z0=>pu2<|zS<|lA z0 0 0 4 (isAgg28 _) (sizeOf28 _)<|cX call82 (p17_shapes p ⟨(RdT.flat (hp.inputs.up 1 (by rfl))),(fun z hz=>(hp.inputsD z hz).of_mem (mem_flat1 1 (by rfl))),(RdT.flat (hp.stages.up 1 (by rfl))),(fun z hz=>(hp.stagesD z hz).of_mem (mem_flat1 1 (by rfl))),(RdT.flat (hp.outputs.up 1 (by rfl)))⟩ (od) z0.flat) ?_
 rintro _ _ ⟨i0,a0,j0,q0,rfl,r0,b1⟩
 have v0:=b1.unflat1
 have hn_az_7:=r0.len;have hl_az_7:=r0.le
 refine pu7<|zQ<|pu2<|nT<|cN ((shpV p.v).2.2) 0 (fun l0=>?_) (fun l0=>?_)
 rotate_left
 ·refine sR<|pu3<|zR<|retT [.pointer none,I ((shpV p.v).2.2)] ?_
  have c1:=(v0.drops [0,0])
  have hk:lowC p.v tw th=(shpV p.v).2.2:=by unfold lowC;rw [if_neg l0]
  exact .inl ⟨by rw [hk];omega,by rw [hk];rfl,c1⟩
 refine kS<|lA v0 1 0 4 (isAgg28 _) (sizeOf28 _)<|cX call86 (p17_order p ⟨(RdT.flat (hp.inputs.up 2 (by rfl))),(fun z hz=>(hp.inputsD z hz).of_mem (mem_flat1 2 (by rfl))),(RdT.flat (hp.stages.up 2 (by rfl))),(fun z hz=>(hp.stagesD z hz).of_mem (mem_flat1 2 (by rfl))),(RdT.flat (hp.outputs.up 2 (by rfl)))⟩ (od) v0.flat) ?_
 rintro _ _ ⟨g0,f0,h0,s0,rfl,n0,d1⟩
 have o0:=d1.unflat1
 have hn_az_16:=n0.len;have hl_az_16:=n0.le
 refine pu5<|nilO ?_
 have hso:=shp_ok (j:=p.v) l0;have hod:=hso.od
 have hsl:(shpV p.v).1.length=p.inputs.n+p.stages.n:=by have h:=hso.len;omega
 have hol:(ordV p.v).1.length=p.stages.n:=by have h:=hso.ln;omega
 have hnn:=hso.nn
 refine tN<|seqE<|sR<|pu2<|nT<|cN ((ordV p.v).2) 0 (fun e1=>?_) (fun e1=>?_)
 rotate_left
 ·exact sR<|pu3<|zR<|retT [.pointer none,I ((ordV p.v).2)]<|absurd hod om
 refine kT<|seqE<|sR<|pu3<|sD 39 (tw<1) (fun f1=>?_) (fun f1=>?_)
 ·refine pu11<|zC<|pu2<|zR<|retT [.pointer none,I 2] ?_
  have g1:=(o0.drops [0,0,0])
  have hk:lowC p.v tw th=2:=by unfold lowC;rw [if_pos l0,if_neg (by unfold tileP;omega)]
  exact .inl ⟨by rw [hk];omega,by rw [hk];rfl,g1⟩
 refine pu4<|sD 43 (tw>64) (fun h1=>?_) (fun h1=>?_)
 ·refine pu7<|zC<|pu2<|zR<|retT [.pointer none,I 2] ?_
  have i1:=(o0.drops [0,0,0])
  have hk:lowC p.v tw th=2:=by unfold lowC;rw [if_pos l0,if_neg (by unfold tileP;omega)]
  exact .inl ⟨by rw [hk];omega,by rw [hk];rfl,i1⟩
 refine pu4<|sD 47 (th<1) (fun j1=>?_) (fun j1=>?_)
 ·refine pu3<|zC<|pu2<|zR<|retT [.pointer none,I 2] ?_
  have k1:=(o0.drops [0,0,0])
  have hk:lowC p.v tw th=2:=by unfold lowC;rw [if_pos l0,if_neg (by unfold tileP;omega)]
  exact .inl ⟨by rw [hk];omega,by rw [hk];rfl,k1⟩
 refine pu3<|nT<|cD (th>64) (fun l1=>?_) (fun l1=>?_)
 ·refine sR<|pu2<|zR<|retT [.pointer none,I 2] ?_
  have m1:=(o0.drops [0,0,0])
  have hk:lowC p.v tw th=2:=by unfold lowC;rw [if_pos l0,if_neg (by unfold tileP;omega)]
  exact .inl ⟨by rw [hk];omega,by rw [hk];rfl,m1⟩
 refine kT<|seqE ?_
 have htp:tileP tw th:=by unfold tileP;omega
 obtain ⟨L,hL⟩:∃z:Lay,z=(⟨(p.inputs.n:Int),p.stages.l.map Stage.v,(shpV p.v).1,(ordV p.v).1,tw,th⟩:Lay):=⟨_,rfl⟩
 have hlv:L=layV p.v tw th:=by rw [hL];unfold layV;rw [hpi];rfl
 have hg:LayG L:=by rw [hlv];exact lay_ok hso htp
 have hLd:L.od=(ordV p.v).1:=by rw [hL]
 have hLs:L.sh=(shpV p.v).1:=by rw [hL]
 have hg2:LayG (⟨(p.inputs.n:Int),p.stages.l.map Stage.v,(shpV p.v).1,(ordV p.v).1,tw,th⟩:Lay):=by rw [<-hL];exact hg
 have hLt:L.tw=tw/\L.th=th:=by rw [hL];exact ⟨rfl,rfl⟩
 have hgn:=hg.ni;have hgl:(L.ss.length:Int)=p.stages.n:=by rw [hL];simp [hn_p_stages]
 have hgi:L.ni=(p.inputs.n:Int):=by rw [hL]
 refine rE<|lA o0 2 0 4 (isAgg28 _) (sizeOf28 _)<|pu5<|sBox o0 (.agg #[.slice p.inputs.a p.inputs.n p.inputs.k, .slice p.stages.a p.stages.n p.stages.k, .slice p.outputs.a p.outputs.n p.outputs.k,I p.priority,I tw,I th, .slice g0 f0 h0, .slice i0 a0 j0,nS,nS]) #[.slice p.inputs.a p.inputs.n p.inputs.k, .slice p.stages.a p.stages.n p.stages.k, .slice p.outputs.a p.outputs.n p.outputs.k,I p.priority,I tw,I th, .slice g0 f0 h0, .slice i0 a0 j0,nS,nS] fun k0 _ n1=>pu1<|zS<|pu3<|sMake (kl:= .i64) (kc:= .i64) (enc:=Go.E.encI) (sz:=1) (nb:=8) n1 0 a0 (a0:Int) (rfl:(a0:Int)=(a0:Int)) underlying22 (i:=Tryz.t3) kr fR fun d0 o1 _ q1 r1=>pu2 ?_
 refine tW r1 1 8 (.slice (At d0 0) a0 a0) sizeOf22 fun _ s1=>zS<|pu3<|sMake (kl:= .i64) (kc:= .i64) (enc:=Go.E.encI) (sz:=1) (nb:=8) s1 0 a0 (a0:Int) (rfl:(a0:Int)=(a0:Int)) underlying22 (i:=Tryz.t3) kr fR fun e0 t1 _ u1 v1=>pu2<|tW v1 2 9 (.slice (At e0 0) a0 a0) sizeOf22 fun _ w1=>zS<|pu1<|zQ<|pu3<|nT<|blockE ?_
 have x1:=(w1.picks [0,1])
 refine loopA (γ:=Nat×Int×(List Int)×Chunk×(List Int)×Chunk) (fun ⟨i,tot,fl,cf,cl,cc⟩=>[(1,I tw),(2,I th),(12,Pt k0 0),(70, .slice g0 f0 h0),(71,I (f0:Int)),(13,I tot),(72,I (i:Int))]) (fun ⟨i,tot,fl,cf,cl,cc⟩ w=>Sat W w (cf::cc::[(k0, .cells #[.slice p.inputs.a p.inputs.n p.inputs.k, .slice p.stages.a p.stages.n p.stages.k, .slice p.outputs.a p.outputs.n p.outputs.k,I p.priority,I tw,I th, .slice g0 f0 h0, .slice i0 a0 j0, .slice (At d0 0) a0 a0, .slice (At e0 0) a0 a0] 97 (0,0))]::s0::q0::[(a1, .cells (encJob p).toArray 28 (0,0))]::H::F)/\i<=p.stages.n/\OwnT Go.E.encI 3 1 (At d0 0) a0 a0 fl cf/\OwnT Go.E.encI 3 1 (At e0 0) a0 a0 cl cc/\(∀n∈L.od.take i,fl[n.toNat]?=some (L.first n)/\cl[n.toNat]?=some (L.cnt n))/\tot=((L.od.take i).map L.cnt).sum) (fun ⟨i,tot,fl,cf,cl,cc⟩=>(p.stages.n-i)) (0,0,(List.replicate a0 0),o1,(List.replicate a0 0),t1) ⟨x1,om,q1,u1,(by intro n hn;simp at hn),(by simp)⟩ ?_
 rintro ⟨i,tot,fl,cf,cl,cc⟩ ρ _ ⟨t0,hi,hOf,hOc,hF,hT⟩
 have hlf:=hOf.len;have hlc:=hOc.len;have hlfe:=hOf.le;have hlce:=hOc.le;have hts:=take_sum_le hg i;have htb:=hg.totb
 refine sR<|pu1<|nT<|seqE<|cD ((i:Int)<(f0:Int)) (fun y1=>?_) (fun y1=>?_)
 rotate_left
 ·refine exitE<|xB<|tN<|seqE<|sR<|pu2<|nT<|cD (tot>4096) (fun z1=>?_) (fun z1=>?_)
  ·refine sR<|pu2<|zR<|retT [.pointer none,I 13] ?_
   have a2:=(t0.drops [0,0,0,0,0,0])
   have hk:lowC p.v tw th=13:=by unfold lowC;rw [if_pos l0,if_pos htp,if_neg (by rw [<-hlv];unfold Lay.total;rw [<-List.take_of_length_le (l:=L.od) (i:=i) (by rw [hLd];omega),<-hT];omega)]
   exact .inl ⟨by rw [hk];omega,by rw [hk];rfl,a2⟩
  refine kS<|pu3<|zE<|retT [Pt k0 0,I 0] ?_
  have htt:L.total<=4096:=by unfold Lay.total;rw [<-List.take_of_length_le (l:=L.od) (i:=i) (by rw [hLd];omega),<-hT];omega
  have hk:lowC p.v tw th=0:=by unfold lowC;rw [if_pos l0,if_pos htp,if_pos (by rw [<-hlv];exact htt)]
  have b2:=((t0.picks [4,4,4]).dropAt 5 rfl)
  have c2:Sat W _ ([(k0, .cells #[.slice p.inputs.a p.inputs.n p.inputs.k, .slice p.stages.a p.stages.n p.stages.k, .slice p.outputs.a p.outputs.n p.outputs.k,I p.priority,I tw,I th, .slice g0 f0 h0, .slice i0 a0 j0, .slice (At d0 0) a0 a0, .slice (At e0 0) a0 a0] 97 (0,0))]::((s0++q0++cf++cc)++H)::F):=Sat.perm (show Sat W _ ([(k0, .cells #[.slice p.inputs.a p.inputs.n p.inputs.k, .slice p.stages.a p.stages.n p.stages.k, .slice p.outputs.a p.outputs.n p.outputs.k,I p.priority,I tw,I th, .slice g0 f0 h0, .slice i0 a0 j0, .slice (At d0 0) a0 a0, .slice (At e0 0) a0 a0] 97 (0,0))]::s0::q0::cf::cc::H::F) from b2) (by simp)
  have hok:LayM.Ok [(s0++q0++cf++cc)++H] (⟨p.inputs,p.stages,p.outputs,p.priority,tw,th,⟨g0,f0,h0,((ordV p.v).1)⟩,⟨i0,a0,j0,((shpV p.v).1)⟩,⟨(At d0 0),a0,a0,fl⟩,⟨(At e0 0),a0,a0,cl⟩⟩:LayM):=⟨(hp.inputs.of_mem mS),(fun z hz=>(hp.inputsD z hz).of_mem mS),(hp.stages.of_mem mS),(fun z hz=>(hp.stagesD z hz).of_mem mS),(hp.outputs.of_mem mS),(n0.rd (fun p hp=>by simp [hp])),(r0.rd (fun p hp=>by simp [hp])),(hOf.rd (fun p hp=>by simp [hp])),(hOc.rd (fun p hp=>by simp [hp]))⟩
  refine .inr ⟨hk,k0,(⟨p.inputs,p.stages,p.outputs,p.priority,tw,th,⟨g0,f0,h0,((ordV p.v).1)⟩,⟨i0,a0,j0,((shpV p.v).1)⟩,⟨(At d0 0),a0,a0,fl⟩,⟨(At e0 0),a0,a0,cl⟩⟩:LayM),(s0++q0++cf++cc),rfl,hok,?_,hg2,hn_p_stages.symm,?_,?_,c2⟩
  ·rw [<-hlv,hL];rfl
  ·exact fun n hn=>by have h:=hF n (by rw [List.take_of_length_le (by rw [hLd];omega),hLd];exact hn);rw [hL] at h;exact h
  ·rw [hL] at htt;exact htt
 refine kT<|seqE<|blockE<|sR<|sIdxO n0 (i:Int) i runUnderlying22 sizeOf3 fun c0 _ _ w0 d2 _=>?_
 have hnd:c0∈L.od:=by rw [hLd];exact List.mem_of_getElem? w0
 have hrn:=hg.rng c0 hnd;have hcb:=hg.cntb hnd;have hfi:=hg.fine hnd;have hgr:=hg.grid hnd;have hcs:=hg.cutsz hnd;unfold szP at hcs
 refine sLp t0 (d2.up 3 rfl) 0 (I c0) (isAgg3 _)<|pu1<|zS<|pu2 ?_
 have e2:=(t0.pick 2 rfl)
 refine cX call87 (p20_cut (x:=(⟨p.inputs,p.stages,p.outputs,p.priority,tw,th,⟨g0,f0,h0,((ordV p.v).1)⟩,⟨i0,a0,j0,((shpV p.v).1)⟩,⟨(At d0 0),a0,a0,fl⟩,⟨(At e0 0),a0,a0,cl⟩⟩:LayM)) ⟨(RdT.flat (hp.inputs.up 5 (by rfl))),(fun z hz=>(hp.inputsD z hz).of_mem (mem_flat1 5 (by rfl))),(RdT.flat (hp.stages.up 5 (by rfl))),(fun z hz=>(hp.stagesD z hz).of_mem (mem_flat1 5 (by rfl))),(RdT.flat (hp.outputs.up 5 (by rfl))),(RdT.flat (n0.rdAt 2 (by rfl))),(RdT.flat (r0.rdAt 3 (by rfl))),(RdT.flat (hOf.rdAt 0 (by rfl))),(RdT.flat (hOc.rdAt 1 (by rfl)))⟩ c0 hg2 hn_p_stages.symm (show c0∈(ordV p.v).1 from hLd▸hnd) e2.flat1) ?_
 rintro _ _ ⟨rfl,f2⟩
 have g2:=f2.unflat1
 obtain ⟨b0,hm_m_61⟩:∃z:Shape,z=L.cut c0:=⟨_,rfl⟩
 rw [show (LayM.L (⟨p.inputs,p.stages,p.outputs,p.priority,tw,th,⟨g0,f0,h0,((ordV p.v).1)⟩,⟨i0,a0,j0,((shpV p.v).1)⟩,⟨(At d0 0),a0,a0,fl⟩,⟨(At e0 0),a0,a0,cl⟩⟩:LayM)).cut c0=b0 from by rw [hm_m_61,hL];rfl]
 rw [<-hm_m_61] at hcs;rw [<-hm_m_61,hLt.1,hLt.2] at hfi
 refine sAlloc g2 zeroValue54 fun _ _ h2=>?_
 refine sT h2 0 0 (.agg #[I b0.w,I b0.h,I b0.max_]) [I b0.w,I b0.h,I b0.max_] #[I b0.w,I b0.h,I b0.max_] sizeOf54 fun _ x0=>zS<|pu1<|sL x0 0 0 (I b0.w) (isAgg3 _)<|pu1<|sL x0 0 1 (I b0.h) (isAgg3 _)<|pu2<|cR call88 (p5_count b0.w b0.h tw th x0.flat) fun _ i2=>pu5<|nilO ?_
 have hxn:L.nx c0=(colsN b0.w b0.h tw th)/\L.ny c0=(rowsN b0.w b0.h tw th):=by unfold Lay.nx Lay.ny;rw [<-hm_m_61,hLt.1,hLt.2];exact ⟨rfl,rfl⟩
 rw [hxn.1,hxn.2] at hgr
 refine tN<|sR<|pu2<|sMul (colsN b0.w b0.h tw th) (rowsN b0.w b0.h tw th)<|pu1<|zQ<|pu2 ?_
 have j2:=(i2.pick 1 rfl)
 refine cX call60 (p20_stage (x:=(⟨p.inputs,p.stages,p.outputs,p.priority,tw,th,⟨g0,f0,h0,((ordV p.v).1)⟩,⟨i0,a0,j0,((shpV p.v).1)⟩,⟨(At d0 0),a0,a0,fl⟩,⟨(At e0 0),a0,a0,cl⟩⟩:LayM)) ⟨(RdT.flat (hp.inputs.up 6 (by rfl))),(fun z hz=>(hp.inputsD z hz).of_mem (mem_flat1 6 (by rfl))),(RdT.flat (hp.stages.up 6 (by rfl))),(fun z hz=>(hp.stagesD z hz).of_mem (mem_flat1 6 (by rfl))),(RdT.flat (hp.outputs.up 6 (by rfl))),(RdT.flat (n0.rdAt 3 (by rfl))),(RdT.flat (r0.rdAt 4 (by rfl))),(RdT.flat (hOf.rdAt 1 (by rfl))),(RdT.flat (hOc.rdAt 2 (by rfl)))⟩ c0 (show (p.inputs.n:Int)<=c0/\c0<(p.inputs.n:Int)+(p.stages.n:Int) by omega) (show p.inputs.n<=1000/\p.stages.n<=1000 by omega) j2.flat1) ?_
 rintro _ _ ⟨m0,rfl,u0,k2⟩
 have p0:=k2.unflat1;replace u0:p.stages.l[(c0-(p.inputs.n:Int)).toNat]?=some m0:=u0
 have hok_q_74:=hp.stagesD m0 (List.mem_of_getElem? u0);have hst_q_74:(⟨(p.inputs.n:Int),p.stages.l.map Stage.v,(shpV p.v).1,(ordV p.v).1,tw,th⟩:Lay).st c0=m0.v:=stg_at (map_at (f:=Stage.v) u0)
 refine pu2<|nT<|cE m0.kind 4 (fun y0=>?_) (fun y0=>?_)
 rotate_left
 ·refine kT<|seqE ?_
  have hcn:((colsN b0.w b0.h tw th)*(rowsN b0.w b0.h tw th))=L.cnt c0:=by unfold Lay.cnt;rw [show L.st c0=m0.v from by rw [hL];exact hst_q_74,if_neg (show ¬m0.v.kind=4 from y0),hxn.1,hxn.2]
  obtain ⟨l2,m2,n2,o2,t4,q2,r2⟩:=OwnT.elem hOf c0
  obtain ⟨s2,t2,u2,v2,u4,w2,x2⟩:=OwnT.elem hOc c0
  refine drawE [13,15] [(3,⟨k0,8,none⟩, .slice (At d0 0) a0 a0),(8,⟨k0,9,none⟩, .slice (At e0 0) a0 a0)] [(true,[0,1,2,4,5,6,7,9,10,11]),(true,[3]),(true,[8]),(true,[12]),(false,[13]),(true,[14]),(false,[15])] rfl kr ⟨cI p0 0,cI p0 0,trivial⟩ ?_
  have y2:=p0.drew
  refine wU [0,1,2,4,5,6,7,9,10,11]<|wLd (.slice (At d0 0) a0 a0) 0 isAgg22<|wLd (.slice (At e0 0) a0 a0) 1 isAgg22<|wY (.pointer (some ⟨m2,n2+(c0).toNat*1,none⟩)) rfl (fun w _=>Y_idx (a:=(At d0 0)) (i:=c0) (len:=a0) (cap:=a0) rfl runUnderlying22 sizeOf3 kr kr q2)<|wO rfl<|sStF y2 hOf r2 2 (c0).toNat 0 l2 tot o2 (I tot) [I tot] sizeOf3 fun _ z2 a3 b3=>nilO ⟨dA,?_⟩
  refine wY (.pointer (some ⟨t2,u2+(c0).toNat*1,none⟩)) rfl (fun w _=>Y_idx (a:=(At e0 0)) (i:=c0) (len:=a0) (cap:=a0) rfl runUnderlying22 sizeOf3 kr kr w2)<|wO rfl<|sStF b3 hOc x2 3 (c0).toNat 0 s2 ((colsN b0.w b0.h tw th)*(rowsN b0.w b0.h tw th)) v2 (I ((colsN b0.w b0.h tw th)*(rowsN b0.w b0.h tw th))) [I ((colsN b0.w b0.h tw th)*(rowsN b0.w b0.h tw th))] sizeOf3 fun _ c3 d3 e3=>nilO ⟨dA,?_⟩
  refine wN<|tN<|rE<|pu2<|sAdd tot ((colsN b0.w b0.h tw th)*(rowsN b0.w b0.h tw th))<|pu1<|nB<|rE<|sAdd (i:Int) 1<|pu1<|nT ?_
  have f3:=((e3.picks [3,3]).dropAt 3 rfl)
  have hLi:L.od[i]?=some c0:=by rw [hLd];exact w0
  exact ⟨(i+1,(tot+((colsN b0.w b0.h tw th)*(rowsN b0.w b0.h tw th))),(fl.set ((c0).toNat) tot),z2,(cl.set ((c0).toNat) ((colsN b0.w b0.h tw th)*(rowsN b0.w b0.h tw th))),c3),od,alA,f3,om,a3,d3,(layw_step hg hLi hF hT hcn om om),(by rw [sum_take hLi,<-hT,<-hcn])⟩
 refine rE<|pu1<|sAdd ((colsN b0.w b0.h tw th)*(rowsN b0.w b0.h tw th)) 1<|pu1<|nT<|seqE ?_
 have hcn:(((colsN b0.w b0.h tw th)*(rowsN b0.w b0.h tw th))+1)=L.cnt c0:=by unfold Lay.cnt;rw [show L.st c0=m0.v from by rw [hL];exact hst_q_74,if_pos (show m0.v.kind=4 from y0),hxn.1,hxn.2]
 obtain ⟨g3,h3,i3,j3,x4,k3,l3⟩:=OwnT.elem hOf c0
 obtain ⟨m3,n3,o3,p3,y4,q3,r3⟩:=OwnT.elem hOc c0
 refine drawE [13,15] [(3,⟨k0,8,none⟩, .slice (At d0 0) a0 a0),(8,⟨k0,9,none⟩, .slice (At e0 0) a0 a0)] [(true,[0,1,2,4,5,6,7,9,10,11]),(true,[3]),(true,[8]),(true,[12]),(false,[13]),(true,[14]),(false,[15])] rfl kr ⟨cI p0 0,cI p0 0,trivial⟩ ?_
 have s3:=p0.drew
 refine wU [0,1,2,4,5,6,7,9,10,11]<|wLd (.slice (At d0 0) a0 a0) 0 isAgg22<|wLd (.slice (At e0 0) a0 a0) 1 isAgg22<|wY (.pointer (some ⟨h3,i3+(c0).toNat*1,none⟩)) rfl (fun w _=>Y_idx (a:=(At d0 0)) (i:=c0) (len:=a0) (cap:=a0) rfl runUnderlying22 sizeOf3 kr kr k3)<|wO rfl<|sStF s3 hOf l3 2 (c0).toNat 0 g3 tot j3 (I tot) [I tot] sizeOf3 fun _ u3 v3 w3=>nilO ⟨dA,?_⟩
 refine wY (.pointer (some ⟨n3,o3+(c0).toNat*1,none⟩)) rfl (fun w _=>Y_idx (a:=(At e0 0)) (i:=c0) (len:=a0) (cap:=a0) rfl runUnderlying22 sizeOf3 kr kr q3)<|wO rfl<|sStF w3 hOc r3 3 (c0).toNat 0 m3 (((colsN b0.w b0.h tw th)*(rowsN b0.w b0.h tw th))+1) p3 (I (((colsN b0.w b0.h tw th)*(rowsN b0.w b0.h tw th))+1)) [I (((colsN b0.w b0.h tw th)*(rowsN b0.w b0.h tw th))+1)] sizeOf3 fun _ x3 y3 z3=>nilO ⟨dA,?_⟩
 refine wN<|tN<|rE<|pu2<|sAdd tot (((colsN b0.w b0.h tw th)*(rowsN b0.w b0.h tw th))+1)<|pu1<|nB<|rE<|sAdd (i:Int) 1<|pu1<|nT ?_
 have a4:=((z3.picks [3,3]).dropAt 3 rfl)
 have hLi:L.od[i]?=some c0:=by rw [hLd];exact w0
 exact ⟨(i+1,(tot+(((colsN b0.w b0.h tw th)*(rowsN b0.w b0.h tw th))+1)),(fl.set ((c0).toNat) tot),u3,(cl.set ((c0).toNat) (((colsN b0.w b0.h tw th)*(rowsN b0.w b0.h tw th))+1)),x3),od,alA,a4,om,v3,y3,(layw_step hg hLi hF hT hcn om om),(by rw [sum_take hLi,<-hT,<-hcn])⟩
theorem p20_low (p:Job) (tw:Int) (th:Int) (hp:Job.Ok [H] p) (hb:p.inputs.n<=1000000/\p.stages.n<=1000000/\p.outputs.n<=1000000) (hS:Sat W w (H::F)):
  Calls prog 16 #[.agg (encJob p).toArray,I tw,I th] w fun e w'=>∃(az:Option Addr) (nz kz:Nat) (zs:List Task) (Z G:Chunk),e= .returned (.tuple #[.slice az nz kz,I (lowC p.v tw th)])/\OwnT encTask 46 9 az nz kz zs Z/\(∀z∈zs,Task.Ok [G] z)/\zs.map Task.v=lowV p.v tw th/\Sat W w' (Z::G::H::F):=by
 have hl_p_inputs:=hp.inputs.le;have hn_p_inputs:=hp.inputs.len
 have hl_p_stages:=hp.stages.le;have hn_p_stages:=hp.stages.len
 have hl_p_outputs:=hp.outputs.le;have hn_p_outputs:=hp.outputs.len
 refine callsA 39 func16 rfl<|sR<|sBox hS (.agg (encJob p).toArray) (encJob p).toArray fun o0 _ p0=>pu2<|zS<|lA p0 0 0 4 (isAgg28 _) (sizeOf28 _)<|pu2<|sF #[.agg (encJob p).toArray,I tw,I th] call46 (Calls.mono (p20_plan (F:=[]) p tw th ⟨(RdT.flat (hp.inputs.up 1 (by rfl))),(fun z hz=>(hp.inputsD z hz).of_mem (mem_flat1 1 (by rfl))),(RdT.flat (hp.stages.up 1 (by rfl))),(fun z hz=>(hp.stagesD z hz).of_mem (mem_flat1 1 (by rfl))),(RdT.flat (hp.outputs.up 1 (by rfl)))⟩ om p0.flat) ?_)
 rintro _ _ (⟨c0,rfl,g0⟩|⟨c0,e0,a0,q0,rfl,b0,t0,u0,hx2_13,v0,w0,g0⟩)
 ·refine ⟨_,rfl,?_⟩
  have x0:=g0.unflat
  refine pu5<|zQ<|pu2<|nT<|cT _ (bne_iff_ne.2 c0)<|sR<|pu3<|zR<|retT [nS,I (lowC p.v tw th)] ?_
  have y0:=(x0.dropAt 0 rfl)
  have z0:Sat W _ ([]::[]::H::F):=Sat.nilc (Sat.nilc y0)
  exact ⟨none,0,0,[],_,_,rfl,OwnT.nil fR,(fun z hz=>by cases hz),by unfold lowV;rw [if_neg c0];rfl,z0⟩
 ·refine ⟨_,rfl,?_⟩
  obtain ⟨h0,i0⟩:∃z:Chunk,z=q0++(([(o0, .cells (encJob p).toArray 28 (0,0))]::H::F):List Chunk).flatten:=⟨_,rfl⟩;rw [<-i0] at b0;have j0:=g0;rw [<-i0] at j0
  have hl_x_8_jobInputs:=b0.jobInputs.le;have hn_x_8_jobInputs:=b0.jobInputs.len
  have hl_x_8_jobStages:=b0.jobStages.le;have hn_x_8_jobStages:=b0.jobStages.len
  have hl_x_8_jobOutputs:=b0.jobOutputs.le;have hn_x_8_jobOutputs:=b0.jobOutputs.len
  have hl_x_8_order:=b0.order.le;have hn_x_8_order:=b0.order.len
  have hl_x_8_shapes:=b0.shapes.le;have hn_x_8_shapes:=b0.shapes.len
  have hl_x_8_first:=b0.first.le;have hn_x_8_first:=b0.first.len
  have hl_x_8_count:=b0.count.le;have hn_x_8_count:=b0.count.len
  have hg:=u0;have hx2:=hx2_13;have hW:=v0;have htt:=w0
  refine pu5<|zQ<|pu2<|nT<|cFf<|kS<|pu1<|zQ<|pu3<|sL j0 0 6 (.slice a0.order.a a0.order.n a0.order.k) (isAgg22 _)<|pu2<|nT<|blockE ?_
  have a1:=Sat.nilc j0
  have b1:=OwnT.nil (enc:=encTask) (E:=46) (sz:=9) fR
  refine loopA (γ:=Nat×(List Task)×(Option Addr)×Nat×Nat×Chunk×Chunk) (fun ⟨i,zs,azs,nzs,kzs,czs,Gzs⟩=>[(8,Pt e0 0),(26, .slice a0.order.a a0.order.n a0.order.k),(27,I (a0.order.n:Int)),(28,I (i:Int)),(10, .slice azs nzs kzs)]) (fun ⟨i,zs,azs,nzs,kzs,czs,Gzs⟩ w=>Sat W w [Gzs,czs,[(e0, .cells (encLayM a0).toArray 97 (0,0))],h0]/\i<=a0.order.n/\(zs.map Task.v=(a0.L.od.take i).flatMap a0.L.tasks)/\((zs.length:Int)=((a0.L.od.take i).map a0.L.cnt).sum)/\OwnT encTask 46 9 azs nzs kzs zs czs/\(∀z∈zs,Task.Ok [Gzs] z)) (fun ⟨i,zs,azs,nzs,kzs,czs,Gzs⟩=>a0.order.n-i) (0,[],none,0,0,[],[]) ⟨(Sat.nilc a1),om,by rfl,(by simp),b1,(by intro z hz;cases hz)⟩ ?_
  rintro ⟨i,zs,azs,nzs,kzs,czs,Gzs⟩ ρ d1 ⟨k0,hi,hE,hzl,hOzs,hDzs⟩
  have hn_zs:=hOzs.len;have hl_zs:=hOzs.le
  refine sR<|pu1<|nT<|seqE<|cD ((i:Int)<(a0.order.n:Int)) (fun e1=>?_) (fun e1=>?_)
  rotate_left
  ·refine exitE<|xB<|tN<|sR<|pu3<|zE<|retT [.slice azs nzs kzs,I 0] ?_
   have f1:=((k0.pick 1 rfl).dropAt 2 rfl)
   have g1:Sat W d1 (czs::Gzs::q0::[(o0, .cells (encJob p).toArray 28 (0,0))]::H::F):=by have h9:=f1;rw [i0] at h9;exact Sat.perm h9 (by simp [Value.cells])
   have h1:=(g1.drops [2,2])
   have hz:zs.map Task.v=lowV p.v tw th:=by unfold lowV;rw [if_pos c0,<-t0];unfold Lay.all;rw [hE,List.take_of_length_le (by show a0.order.l.length<=_;omega)]
   exact ⟨_,_,_,_,_,_,by rw [c0];rfl,hOzs,hDzs,hz,h1⟩
  refine kT<|seqE<|blockE<|sR<|sIdx b0.order (i:Int) runUnderlying22 sizeOf3 fun f0 _ _ d0 i1=>?_
  rw [Int.toNat_natCast] at d0
  have hnd:f0∈a0.L.od:=List.mem_of_getElem? d0;have hcb:=hg.cntb hnd;have hts:=take_sum_le hg i;have hts1:=take_sum_le hg (i+1);rw [sum_take (l:=a0.L.od) d0] at hts1
  refine sLp k0 (i1.up 3 rfl) 0 (I f0) (isAgg3 _)<|pu1<|nT<|rE<|pu3 ?_
  have j1:=(k0.pick 2 rfl)
  refine cX call47 (p20_tasks (b0.of_mem (mem_flat1 2 (by rfl))) f0 hg hx2 hW hnd htt j1.flat1) ?_
  rintro _ _ ⟨_,k1,_,r0,_,l0,rfl,m0,l1,s0,m1⟩
  have n1:=m1.unflat3;have hn_az_37:=m0.len;have hl_az_37:=m0.le
  have hzl_az_37:(r0.length:Int)=a0.L.cnt f0:=by rw [<-tasks_len hg hnd,<-s0,List.length_map]
  refine sApp (nb:=88) n1 hOzs 4 (m0.rdAt 0 rfl) underlying39 (i:=Tryz.t46) kr fR fun o1 q1 n0 _ r1 s1=>pu1<|nB<|rE<|sAdd (i:Int) 1<|pu1<|nT ?_
  have t1:=((s1.picks [4,4,3]).dropAt 3 rfl)
  exact ⟨(i+1,(zs++r0),o1,(nzs+k1),q1,n0,(l0++Gzs)),od,alA,(Sat.perm (cs':=(l0++Gzs)::(n0::[(e0, .cells (encLayM a0).toArray 97 (0,0))]::h0::[])) (show Sat W _ [l0,Gzs,n0,[(e0, .cells (encLayM a0).toArray 97 (0,0))],h0] from t1) (by simp)),om,(by rw [List.map_append,hE,s0,<-take_flat (l:=a0.L.od) d0]),(by rw [List.length_append,sum_take (l:=a0.L.od) d0,<-hzl,<-hzl_az_37];push_cast;rfl),r1,(by
    intro z hz
    rcases List.mem_append.1 hz with h|h
    ·exact (hDzs z h).of_mem mS
    ·exact (l1 z h).of_mem mS)⟩
theorem p20_cells (p:Job) (tw:Int) (th:Int) (hp:Job.Ok [H] p) (hb:p.inputs.n<=1000000/\p.stages.n<=1000000/\p.outputs.n<=1000000) (hS:Sat W w (H::F)):
  Calls prog 20 #[.agg (encJob p).toArray,I tw,I th] w fun e w'=>e= .returned (.tuple #[I (celV p.v tw th),I (lowC p.v tw th)])/\Sat W w' (H::F):=by
 have hl_p_inputs:=hp.inputs.le;have hn_p_inputs:=hp.inputs.len
 have hl_p_stages:=hp.stages.le;have hn_p_stages:=hp.stages.len
 have hl_p_outputs:=hp.outputs.le;have hn_p_outputs:=hp.outputs.len
 refine callsA 73 func20 rfl<|sR<|sBox hS (.agg (encJob p).toArray) (encJob p).toArray fun s0 _ t0=>pu2<|zS<|lA t0 0 0 4 (isAgg28 _) (sizeOf28 _)<|pu2<|sF #[.agg (encJob p).toArray,I tw,I th] call46 (Calls.mono (p20_plan (F:=[]) p tw th ⟨(RdT.flat (hp.inputs.up 1 (by rfl))),(fun z hz=>(hp.inputsD z hz).of_mem (mem_flat1 1 (by rfl))),(RdT.flat (hp.stages.up 1 (by rfl))),(fun z hz=>(hp.stagesD z hz).of_mem (mem_flat1 1 (by rfl))),(RdT.flat (hp.outputs.up 1 (by rfl)))⟩ om t0.flat) ?_)
 rintro _ _ (⟨h0,rfl,l0⟩|⟨h0,i0,a0,u0,rfl,c0,z0,a1,hx2_13,b1,d1,l0⟩)
 ·refine ⟨_,rfl,?_⟩
  have e1:=l0.unflat
  exact pu5<|zQ<|pu2<|nT<|cT _ (bne_iff_ne.2 h0)<|sR<|pu3<|zR<|retT [I 0,I (lowC p.v tw th)]<|⟨by unfold celV;rw [if_neg h0];rfl,(e1.dropAt 0 rfl)⟩
 ·refine ⟨_,rfl,?_⟩
  obtain ⟨v0,m0⟩:∃z:Chunk,z=u0++(([(s0, .cells (encJob p).toArray 28 (0,0))]::H::F):List Chunk).flatten:=⟨_,rfl⟩;rw [<-m0] at c0;have n0:=l0;rw [<-m0] at n0
  have hl_x_8_jobInputs:=c0.jobInputs.le;have hn_x_8_jobInputs:=c0.jobInputs.len
  have hl_x_8_jobStages:=c0.jobStages.le;have hn_x_8_jobStages:=c0.jobStages.len
  have hl_x_8_jobOutputs:=c0.jobOutputs.le;have hn_x_8_jobOutputs:=c0.jobOutputs.len
  have hl_x_8_order:=c0.order.le;have hn_x_8_order:=c0.order.len
  have hl_x_8_shapes:=c0.shapes.le;have hn_x_8_shapes:=c0.shapes.len
  have hl_x_8_first:=c0.first.le;have hn_x_8_first:=c0.first.len
  have hl_x_8_count:=c0.count.le;have hn_x_8_count:=c0.count.len
  have hg:=a1;have hx2:=hx2_13;have hW:=b1;have htt:=d1
  refine pu5<|zQ<|pu2<|nT<|cFf<|kS<|pu1<|zQ<|pu3<|sL n0 0 7 (.slice a0.shapes.a a0.shapes.n a0.shapes.k) (isAgg61 _)<|pu2<|nT<|blockE<|loopA (γ:=Nat×Int) (fun ⟨i,c1⟩=>[(8,Pt i0 0),(29, .slice a0.shapes.a a0.shapes.n a0.shapes.k),(30,I (a0.shapes.n:Int)),(31,I (i:Int)),(10,I c1)]) (fun ⟨i,c1⟩ w=>Sat W w [[(i0, .cells (encLayM a0).toArray 97 (0,0))],v0]/\i<=a0.shapes.n/\(c1=((a0.L.sh.take i).map fun m=>m.w*m.h).sum)) (fun ⟨i,c1⟩=>a0.shapes.n-i) (0,0) ⟨n0,om,(by simp)⟩ ?_
  rintro ⟨i,c1⟩ ρ _ ⟨j0,hi,hE⟩
  refine sR<|pu1<|nT<|seqE<|cD ((i:Int)<(a0.shapes.n:Int)) (fun g1=>?_) (fun g1=>?_)
  ·refine kT<|seqE<|blockE<|sR<|sIdx c0.shapes (i:Int) runUnderlying61 sizeOf54 fun b0 _ _ o0 h1=>?_
   rw [Int.toNat_natCast] at o0
   have hgl:=hg.len;have hgn0:=hg.ni;simp only [LayM.L] at hgl hgn0
   have hsz:=sh_bd hg (show a0.L.sh[i]?=some b0 from o0);unfold szP at hsz;have hcs:=cellsum_le hg i (show i<=a0.shapes.l.length by omega);have hmw:=mul_bd (a:=b0.w) (b:=b0.h) (A:=128) (B:=128) om om
   refine sLpA j0 (h1.up 1 rfl) 0 [I b0.w,I b0.h,I b0.max_] (isAgg54 _) (sizeOf54 _)<|sAlloc j0 zeroValue54 fun _ _ i1=>?_
   exact sT i1 0 0 (.agg #[I b0.w,I b0.h,I b0.max_]) [I b0.w,I b0.h,I b0.max_] #[I b0.w,I b0.h,I b0.max_] sizeOf54 fun _ p0=>nT<|rE<|pu2<|sL p0 0 0 (I b0.w) (isAgg3 _)<|pu1<|sL p0 0 1 (I b0.h) (isAgg3 _)<|sMul b0.w b0.h<|sAdd c1 (b0.w*b0.h)<|pu1<|nB<|rE<|sAdd (i:Int) 1<|pu1<|nT<|⟨(i+1,(c1+(b0.w*b0.h))),od,alA,(p0.dropAt 0 rfl),om,(by rw [List.take_add_one,show a0.L.sh[i]?=some b0 from o0,Option.toList_some,List.map_append,List.sum_append,<-hE];simp)⟩
  refine exitE<|xB<|tN<|seqE<|sR<|pu3<|sL j0 0 6 (.slice a0.order.a a0.order.n a0.order.k) (isAgg22 _)<|pu2<|nT<|blockE<|loopA (γ:=Nat×Int) (fun ⟨j,c2⟩=>[(8,Pt i0 0),(46, .slice a0.order.a a0.order.n a0.order.k),(47,I (a0.order.n:Int)),(48,I (j:Int)),(10,I c2)]) (fun ⟨j,c2⟩ w=>Sat W w [[(i0, .cells (encLayM a0).toArray 97 (0,0))],v0]/\j<=a0.order.n/\(c2=c1+((a0.L.od.take j).map (histC a0.L)).sum)) (fun ⟨j,c2⟩=>a0.order.n-j) (0,c1) ⟨j0,om,(by simp)⟩ ?_
  rintro ⟨j,c2⟩ ρ k1 ⟨q0,hj,hE2⟩
  have hgl:=hg.len;have hgn0:=hg.ni;have hgo:=hg.ln;simp only [LayM.L] at hgl hgn0 hgo;have hcs9:=cellsum_le hg i (show i<=a0.shapes.l.length by omega)
  refine sR<|pu1<|nT<|seqE<|cD ((j:Int)<(a0.order.n:Int)) (fun l1=>?_) (fun l1=>?_)
  rotate_left
  ·refine exitE<|xB<|tN<|sR<|pu3<|zE<|retT [I c2,I 0] ?_
   have m1:=(q0.dropAt 0 rfl)
   have n1:Sat W k1 (u0::[(s0, .cells (encJob p).toArray 28 (0,0))]::H::F):=by have h9:=m1;rw [m0] at h9;exact Sat.perm h9 (by simp [Value.cells])
   have o1:=(n1.drops [0,0])
   have hz:c2=celV p.v tw th:=by unfold celV;rw [if_pos h0,<-z0];unfold Lay.cells;rw [hE2,hE,List.take_of_length_le (by show a0.shapes.l.length<=_;omega),List.take_of_length_le (l:=a0.L.od) (by show a0.order.l.length<=_;omega)];rfl
   exact ⟨by rw [h0,<-hz];rfl,o1⟩
  refine kT<|seqE<|blockE<|sR<|sIdx c0.order (j:Int) runUnderlying22 sizeOf3 fun e0 _ _ k0 q1=>?_
  rw [Int.toNat_natCast] at k0
  have hnd:e0∈a0.L.od:=List.mem_of_getElem? k0;have hcb:=hg.cntb hnd;have hrn:=hg.rng e0 hnd;have hgn:=hg.ni;simp only [LayM.L,List.length_map] at hrn hgn;have hbk:=hg.byt hnd;have hhs:=histsum_le hg j (show j<=a0.order.l.length by omega);have hhb:=hist_bd hg hnd
  have hb2:=(List.getElem?_eq_some_iff.1 (hW e0 hnd).2).1
  refine sLp q0 (q1.up 1 rfl) 0 (I e0) (isAgg3 _)<|pu1<|zS<|pu2<|cX call60 (p20_stage (c0.of_mem (mem_flat1 0 (by rfl))) e0 om om q0.flat1) ?_
  rintro _ _ ⟨d0,rfl,w0,r1⟩
  have s1:=r1.unflat1
  have hok_q_46:=c0.jobStagesD d0 (List.mem_of_getElem? w0);have hst_q_46:=lay_st w0
  refine sAlloc s1 zeroValue38 fun t1 _ u1=>?_
  refine sT u1 0 0 (.agg (encStage d0).toArray) (encStage d0) (encStage d0).toArray sizeOf38 fun _ g0=>zS<|pu1<|sL g0 0 0 (I d0.kind) (isAgg3 _)<|pu1<|nT<|cE d0.kind 4 (fun r0=>?_) (fun r0=>?_)
  rotate_left
  ·refine skipE<|bN<|tN<|rE<|sAdd (j:Int) 1<|pu1<|nT ?_
   exact ⟨(j+1,c2),od,alA,(g0.dropAt 0 rfl),om,(by rw [sum_take (l:=a0.L.od) k0,show histC a0.L e0=0 from by unfold histC;rw [hst_q_46,if_neg (show ¬d0.v.kind=4 from r0)],hE2];omega)⟩
  have hhc:histC a0.L e0=d0.bins*(a0.L.cnt e0-1):=by unfold histC;rw [hst_q_46,if_pos (show d0.v.kind=4 from r0)];rfl
  rw [hst_q_46] at hbk;unfold bytOK at hbk;simp only [Stage.v] at hbk
  obtain ⟨f0,x0,y0,w1,x1,y1⟩:=RdT.elem c0.count e0
  have hc_x_54:a0.L.cnt e0=f0:=Option.some.inj ((hW e0 hnd).2.symm.trans w1)
  have hmq:=mul_bd (a:=d0.bins) (b:=f0-1) (A:=128) (B:=16384) om om
  refine drawE [] [(2,⟨t1,15,none⟩,I d0.bins),(6,⟨i0,9,none⟩, .slice a0.count.a a0.count.n a0.count.k),(9,⟨x0,y0,none⟩,I f0)] [(true,[0,1,3,4,5,7]),(true,[2]),(true,[6]),(true,[8]),(true,[9]),(true,[10]),(true,[11]),(true,[12]),(true,[13])] rfl kr ⟨cI g0 0,cI g0 1, .inr ((x1.up 2 rfl).cell g0 (k:=0) rfl),trivial⟩ ?_
  have z1:=g0.drew
  exact wU [0,1,3,4,5,7]<|wLd (I d0.bins) 0 isAgg3<|wLd (.slice a0.count.a a0.count.n a0.count.k) 1 isAgg22<|wY (.pointer (some ⟨x0,y0,none⟩)) rfl (fun w _=>Y_idx (a:=a0.count.a) (i:=e0) (len:=a0.count.n) (cap:=a0.count.k) rfl runUnderlying22 sizeOf3 kr kr y1)<|wLd (I f0) 2 isAgg3<|wSub f0 1<|wMul d0.bins (f0-1)<|wAdd c2 (d0.bins*(f0-1))<|wU [13]<|wN<|bN<|tN<|rE<|sAdd (j:Int) 1<|pu1<|nT<|⟨(j+1,(c2+(d0.bins*(f0-1)))),od,alA,(z1.dropAt 0 rfl),om,(by rw [sum_take (l:=a0.L.od) k0,hhc,hc_x_54,hE2];omega)⟩
end Go.Proofs.YtdingplbadblpaaGreat
namespace Go.E
set_option linter.all false
section
variable {P:Program} {n:Nat} {ρ:Env} {W w:World} {cs:List Chunk} {ops:Array Oper} {rest:List Oper} {N:Env->World->Prop} {o:Oper}
theorem sCopy {α:Type} {enc:α->List Value} {E sz:Nat} {a:Option Addr} {m cap:Nat} {xs:List α} {c:Chunk} (hS:Sat W w cs) (hO:OwnT enc E sz a m cap xs c) (j lo hi:Nat) (h1:hi<=lo) (h2:lo<=m)
  {t:TypeId} {args:Array Operand} {ats:Array TypeId} {x y:Operand} (hu:∀w,(underlying t).run P w= .ok (.slice E) w) (hsz:∀w,(sizeOf E).run P w= .ok sz w) (hone:∀z,∀v∈enc z,v.oneCell'=true)
  (h:∀w' c',OwnT enc E sz a m cap (xs.take lo++(xs.drop hi).take (m-lo)) c'->Sat W w' (cs.set j c')->OpsE P n ops rest N (put ρ o.dst (I ((m-lo:Nat):Int))) w')
  (ho:o.op= .call {callee:= .builtin .copy,args:=args,argTypes:=ats}:=by rfl) (hargs:args=#[x,y]:=by rfl) (hats:ats=#[t,t]:=by rfl) (hg:o.guard=none:=by rfl) (hd:dstOK n o.dst=true:=by rfl) (hj:cs[j]?=some c:=by rfl)
  (hx:ev ρ x= .slice (partAddr a cap lo sz) (m-lo) (cap-lo):=by kernel_rfl) (hy:ev ρ y= .slice (partAddr a cap hi sz) (m-hi) (cap-hi):=by kernel_rfl):OpsE P n ops (o::rest) N ρ w:=by
 subst hargs;subst hats
 have hnxt:∀w' c',OwnT enc E sz a m cap (xs.take lo++(xs.drop hi).take (m-lo)) c'->Sat W w' (cs.set j c')->(execOp (ev ρ) o).run P w= .ok (.value (I ((m-lo:Nat):Int))) w'->OpsE P n ops (o::rest) N ρ w:=fun w' c' hO' hS' hr=>
  stepRun hg hd hr (h w' c' hO' hS')
 have hmin:Nat.min (m-hi) (m-lo)=m-lo:=Nat.min_eq_right om
 by_cases h0:m-lo=0
 ·refine hnxt w c ?_ (hS.set j hj (fun h=>h)) ?_
  ·rw [h0,List.take_zero,List.append_nil,List.take_of_length_le (by rw [hO.1];omega)];exact hO
  ·have hf:∀b,(Builtin.firstCells sz 0 (.slice b (m-hi) (cap-hi))).run P w= .ok #[] w:=by
    intro b
    cases b with
    |none=>exact run_firstCells_none w _ _ _ _
    |some p=>exact run_firstCells_some (P:=P) w sz 0 p _ _ [] (by simp) (by simp)
   unfold execOp
   rw [ho]
   simp only [resolve,invoke,builtin,List.map_toArray,List.map_cons,List.map_nil,hx,hy]
   cases partAddr a cap lo sz<;>simp [Builtin.copy_,hu,hsz,Builtin.lenOf,hmin,h0,hf,goInt,storeCells]
 ·obtain ⟨hl,he,hlen,hr⟩:=hO
  have hO:OwnT enc E sz a m cap xs c:=⟨hl,he,hlen,hr⟩
  rcases hr with ⟨_,rfl,_⟩|⟨b,off,cur,rfl,rfl,hn,hcm,hf,ht⟩
  ·omega
  ·have hne:¬cap=lo:=by omega
   have hne2:¬cap=hi:=by omega
   have hms:m*sz<=cap*sz:=Nat.mul_le_mul_right _ hn
   have hls:lo*sz<=m*sz:=Nat.mul_le_mul_right _ h2
   have hsub:(m-lo)*sz=m*sz-lo*sz:=Nat.sub_mul ..
   have hyl:((xs.drop hi).take (m-lo)).length=m-lo:=by rw [List.length_take,List.length_drop];omega
   have hvl:(((xs.drop hi).take (m-lo)).flatMap enc).length=(m-lo)*sz:=by rw [flatMap_len he,hyl]
   have hR:=(hO.rdAt (cs:=cs) j hj).part (lo:=hi) (hi:=hi+(m-lo)) om om
   rw [show hi+(m-lo)-hi=m-lo by omega] at hR
   have hcell:=hR.2.2
   simp only [partAddr,if_neg hne2,Option.map_some,add_off] at hcell
   obtain ⟨_,_,_,hp⟩:=hcell
   rcases hp with hp|⟨b2,o2,e2,hp⟩
   ·omega
   simp only [Option.some.injEq,Addr.mk.injEq,and_true] at e2
   obtain ⟨rfl,rfl⟩:=e2
   have hfc:=run_firstCells_some (P:=P) w sz (m-lo) ⟨b,off+hi*sz,none⟩ (m-hi) (cap-hi) (((xs.drop hi).take (m-lo)).flatMap enc) hvl (fun j v hv=>by rw [add_off];exact hp.cell hS hv)
   have hall:∀u∈((xs.drop hi).take (m-lo)).flatMap enc,u.oneCell'=true:=by
    intro u hu'
    obtain ⟨z,_,hz⟩:=List.mem_flatMap.1 hu'
    exact hone z u hz
   have hst:=run_storeCells_at P b (off+lo*sz) E (((xs.drop hi).take (m-lo)).flatMap enc) 0 cur w (hS.at j hj) (by simp only [Nat.add_zero,hvl];omega) hall
   simp only [Nat.add_zero] at hst
   refine hnxt (w.setRow b (wr cur (off+lo*sz) (((xs.drop hi).take (m-lo)).flatMap enc))) [(b, .cells (wr cur (off+lo*sz) (((xs.drop hi).take (m-lo)).flatMap enc)) E (0,0))] ?_ (hS.rowAt j hj _) ?_
   ·refine ⟨by rw [List.length_append,hyl,List.length_take];omega,he,?_⟩
    refine ⟨by rw [flatMap_len he];congr 1;rw [List.length_append,hyl,List.length_take];omega, .inr ⟨b,off,_,rfl,rfl,hn,hcm,by rw [size_wr (by rw [hvl];omega)];exact hf,?_⟩⟩
    rw [wr_own om (by rw [hvl];omega),ht,List.flatMap_append,show (xs.take lo).flatMap enc=(xs.flatMap enc).take (lo*sz) from (flatMap_take he ..).symm]
    simp only [wrL]
    generalize ((xs.drop hi).take (m-lo)).flatMap enc=Y at hvl⊢
    rw [List.drop_eq_nil_of_le (by rw [hlen,hvl];omega)]
    simp
   ·unfold execOp
    rw [ho]
    simp only [resolve,invoke,builtin,List.map_toArray,List.map_cons,List.map_nil,hx,hy,partAddr,if_neg hne,if_neg hne2,Option.map_some,add_off]
    simp [Builtin.copy_,hu,hsz,Builtin.lenOf,hmin,hfc,hst,goInt,wr]
end
end Go.E

namespace Go.Proofs.YtdingplbadblpaaGreat
open Go Go.E Go.Proofs.Tryz
set_option linter.all false
set_option maxRecDepth 100000
set_option maxHeartbeats 2000000
variable {W w:World} {H:Chunk} {F:List Chunk}
theorem asc_take_le {l:List Int} {n y:Int} {m:Nat} (h:Asc l) (hy:l[m-1]?=some y) (hn:y<=n) (h0:0<m):∀x∈l.take m,x<=n:=by
  intro x hx
  obtain ⟨j,hj⟩:=List.getElem?_of_mem hx
  rw [List.getElem?_take] at hj
  split at hj
  · rename_i hjm
    by_cases e:j=m-1
    · subst e;rw [hy] at hj;have:=Option.some.inj hj;omega
    · obtain ⟨h1,e1⟩:=List.getElem?_eq_some_iff.1 hj
      obtain ⟨h2,e2⟩:=List.getElem?_eq_some_iff.1 hy
      have:=List.pairwise_iff_getElem.1 h j (m-1) h1 h2 (by omega)
      rw [e1,e2] at this;omega
  · cases hj
theorem ins_hit {l:List Int} {n:Int} {m:Nat} (h:Asc l) (hm:m<=l.length) (h2:∀x∈l.drop m,n<x) (h0:0<m) (he:l[m-1]?=some n):insU n l=l:=by
  rw [insU_split h hm (asc_take_le h he (Int.le_refl _) h0) h2,if_pos ⟨h0,he⟩]
theorem ins_put {l:List Int} {n:Int} {m:Nat} (h:Asc l) (hm:m<=l.length) (h2:∀x∈l.drop m,n<x) (h1:m=0\/∃y,l[m-1]?=some y/\y<n):
  ((l++[0]).take (m+1)++((l++[0]).drop m).take (l.length+1-(m+1))).set m n=insU n l:=by
 have ht:∀x∈l.take m,x<=n:=by
  rcases h1 with rfl|⟨y,hy,hl⟩
  ·simp
  ·by_cases e:m=0
   ·subst e;simp
   ·exact asc_take_le h hy om om
 have hne:¬(0<m/\l[m-1]?=some n):=by
  rintro ⟨h3,h4⟩
  rcases h1 with rfl|⟨y,hy,hl⟩
  ·omega
  ·rw [h4] at hy;have:=Option.some.inj hy;omega
 rw [insU_split h hm ht h2,if_neg hne]
 have hz:(l++[0])[m]?=some ((l++[0])[m]'(by simp;omega)):=List.getElem?_eq_getElem _
 rw [List.take_add_one,hz,Option.toList_some,List.take_append_of_le_length hm,List.drop_append_of_le_length hm,List.take_append_of_le_length (by rw [List.length_drop];omega),List.take_of_length_le (l:=List.drop m l) (by rw [List.length_drop];omega),List.append_assoc,List.set_append_right _ _ (by rw [List.length_take];omega),List.length_take,Nat.min_eq_left hm,Nat.sub_self]
 rfl
theorem drop_lt {l:List Int} {n y:Int} {m:Nat} (h2:∀x∈l.drop (m+1),n<x) (hy:l[m]?=some y) (hn:n<y):∀x∈l.drop m,n<x:=by
  obtain ⟨hl,e⟩:=List.getElem?_eq_some_iff.1 hy
  intro x hx
  rw [List.drop_eq_getElem_cons hl,e] at hx
  rcases List.mem_cons.1 hx with rfl|hx
  · exact hn
  · exact h2 x hx
def insV (fr:Int) (more l:List Int):List Int:=(more.map (fr+·)).foldl (fun a n=>insU n a) l
theorem insV_succ {fr x:Int} {more l:List Int} {i:Nat} (h:more[i]?=some x):insV fr (more.take (i+1)) l=insU (fr+x) (insV fr (more.take i) l):=by
  unfold insV
  rw [List.take_add_one,h,Option.toList_some,List.map_append,List.foldl_append];rfl
theorem insV_asc {fr:Int} {more l:List Int} (h:Asc l):Asc (insV fr more l):=insF_asc _ h
theorem insV_canon (fr:Int) (more l:List Int):insV fr more (canonV l)=canonV (l++more.map (fr+·)):=(canon_app l _).symm
theorem insU_len (n:Int):∀l:List Int,(insU n l).length<=l.length+1
  |[]=>by simp [insU]
  |x::l=>by
    have:=insU_len n l
    simp only [insU]
    repeat' split
    all_goals simp only [List.length_cons] at*;omega
theorem insV_len (fr:Int) (more:List Int):∀l:List Int,(insV fr more l).length<=l.length+more.length:=by
  unfold insV
  induction more with
  |nil=>intro l;simp
  |cons x more ih=>
    intro l
    have h1:=ih (insU (fr+x) l);have h2:=insU_len (fr+x) l
    rw [List.map_cons,List.foldl_cons,List.length_cons];omega
theorem kern_one {q:StageV} {s t:Shape} (h:¬twoP q):kernelV q s t=kernelV q s s:=by
  unfold twoP at h
  have hd:decide (q.kind=6/\¬q.b=-1)=false:=decide_eq_false h
  have hp:∀a b c,pwCode q.ops false a b c=pwCode q.ops false a 1 c:=fun a b c=>rfl
  unfold kernelV
  rw [hd,hp s.max_ t.max_,hp s.max_ s.max_]
  simp only [h,false_and,if_false]
theorem of_one {q:StageV} {s t:Shape} (h:¬twoP q) (h0:(ofV q s t).2=0):(ofV q s s).2=0:=by
  have e:ofV q s s=ofV q s t:=by
    unfold ofV
    rw [kern_one (t:=t) h]
    simp only [h,not_false_eq_true,true_or]
  rw [e];exact h0
theorem LayG.scr {L:Lay} (g:LayG L) {x p:Int} {r:Rct} (hx:x∈L.od) (h2:¬twoP (L.st x)) (hp:belongP (L.st x).kind p) (hr:inP r):
    scrV (L.st x) (shpAt L.sh (L.st x).a) p r=bytV (L.st x) (shpAt L.sh (L.st x).a).h r:=by
  have h:=g.fit x hx
  unfold FitP shpStep at h
  unfold scrV
  rw [if_pos ⟨of_one h2 (congrArg Prod.snd h),hp,hr⟩]
theorem byt_two {s:StageV} {h:Int} {r:Rct} (h2:twoP s):bytV s h r=alnV (8*(r.x1-r.x0)):=by
  have:=h2.1
  unfold bytV cellsV
  rw [if_neg (by omega),if_neg (by omega),if_neg (by omega),if_neg (by omega),if_neg (by omega)]
theorem perm_sum {f:Int->Int} {l l':List Int} (h:l.Perm l'):(l.map f).sum=(l'.map f).sum:=by
  induction h with
  |nil=>rfl
  |cons x _ ih=>simp [ih]
  |swap x y l=>simp;omega
  |trans _ _ h1 h2=>exact h1.trans h2
def ixs (L:Lay) (k:Nat):List Int:=(List.range k).map fun (i:Nat)=>L.ni+(i:Int)
theorem ixs_succ (L:Lay) (k:Nat):ixs L (k+1)=ixs L k++[L.ni+(k:Int)]:=by unfold ixs;rw [List.range_succ,List.map_append];rfl
theorem LayG.perm {L:Lay} (g:LayG L):(ixs L L.ss.length).Perm L.od:=by
  refine (List.perm_ext_iff_of_nodup ?_ g.nd).2 (fun x=>?_)
  · unfold ixs
    rw [List.nodup_iff_pairwise_ne,List.pairwise_map]
    exact List.Pairwise.imp (fun h=>by omega) List.pairwise_lt_range
  · unfold ixs
    simp only [List.mem_map,List.mem_range]
    constructor
    · rintro ⟨i,hi,rfl⟩;exact g.every _ (by omega) (by omega)
    · intro hx;have:=g.rng x hx;exact ⟨(x-L.ni).toNat,by omega,by omega⟩
theorem LayG.total_ix {L:Lay} (g:LayG L):((ixs L L.ss.length).map L.cnt).sum=L.total:=perm_sum g.perm
theorem LayG.cells_ix {L:Lay} (g:LayG L):(L.sh.map fun m=>m.w*m.h).sum+((ixs L L.ss.length).map (histC L)).sum=L.cells:=by
  rw [perm_sum g.perm];rfl
theorem ixs_sum {L:Lay} {f:Int->Int} (k:Nat):((ixs L (k+1)).map f).sum=((ixs L k).map f).sum+f (L.ni+(k:Int)):=by
  rw [ixs_succ,List.map_append,List.sum_append];simp
theorem ixs_bd {L:Lay} {f:Int->Int} {B:Int}:∀k:Nat,(∀i:Nat,i<k->0<=f (L.ni+(i:Int))/\f (L.ni+(i:Int))<=B)->0<=((ixs L k).map f).sum/\((ixs L k).map f).sum<=B*k
  |0,_=>by simp [ixs]
  |k+1,h=>by
    have ih:=ixs_bd k (fun i hi=>h i (by omega));have hk:=h k (by omega)
    rw [ixs_sum]
    rw [show B*((k+1:Nat):Int)=B*k+B by push_cast;rw [Int.mul_add,Int.mul_one]]
    omega
theorem LayG.ix {L:Lay} (g:LayG L) {i:Nat} (h:i<L.ss.length):L.ni+(i:Int)∈L.od:=g.every _ (by omega) (by omega)
theorem r20_upto (n:Int) (hb:n<=1000000) (hS:Sat W w (H::F)):
  Calls prog 59 #[I n] w fun e w'=>∃(az:Option Addr) (nz kz:Nat) (G:Chunk),e= .returned (.slice az nz kz)/\OwnT Go.E.encI 3 1 az nz kz (uptoV n.toNat) G/\Sat W w' (G::H::F):=by
 refine callsA 15 func59 rfl<|sR<|pu1<|zS<|pu1<|zQ<|pu1<|nT<|blockE ?_
 have b0:=Sat.nilc hS
 refine loopA (γ:=Nat×(List Int)×(Option Addr)×Nat×Nat×Chunk) (fun ⟨i,zs,azs,nzs,kzs,czs⟩=>[(0,I n),(4,I (i:Int)),(3, .slice azs nzs kzs)]) (fun ⟨i,zs,azs,nzs,kzs,czs⟩ w=>Sat W w (czs::H::F)/\i<=n.toNat/\(zs=uptoV i)/\OwnT Go.E.encI 3 1 azs nzs kzs zs czs) (fun ⟨i,zs,azs,nzs,kzs,czs⟩=>n.toNat-i) (0,[],none,0,0,[]) ⟨b0,om,by rfl,(OwnT.nil (enc:=Go.E.encI) (E:=3) (sz:=1) fR)⟩ ?_
 rintro ⟨i,zs,azs,nzs,kzs,czs⟩ ρ _ ⟨a0,hi,hE,hOzs⟩
 have hn_zs:=hOzs.len;have hl_zs:=hOzs.le
 refine seqE<|sR<|pu3<|nT<|cD ((i:Int)<n) (fun d0=>?_) (fun d0=>?_)
 rotate_left
 ·refine exitE<|xB<|tN<|sR<|pu2<|zE<|retT [.slice azs nzs kzs] ?_
  have hl:zs=uptoV n.toNat:=(by rw [hE,show i=n.toNat by omega])
  have hrd:=hOzs
  rw [hl] at hrd
  exact ⟨_,_,_,_,rfl,hrd,a0⟩
 refine kT<|seqE<|blockE ?_
 have hzl:zs.length=i:=by rw [hE,upto_len]
 exact rE<|pu2<|sBS a0 #[I (i:Int)] runUnderlying22 sizeOf3 zeroValue3 fun _ _ e0=>sApp (nb:=8) e0 hOzs 1 (RdT.blk (enc:=Go.E.encI) (sz:=1) (xs:=[(i:Int)]) fR 1 0 rfl rfl rfl om) underlying22 (i:=Tryz.t3) kr fR fun f0 g0 h0 _ i0 j0=>pu1<|nB<|rE<|pu1<|sAdd (i:Int) 1<|pu1<|nT<|⟨(i+1,(zs++[(i:Int)]),f0,(nzs+1),g0,h0),od,alA,(j0.dropAt 0 rfl),om,(by rw [hE,upto_succ]),i0⟩
theorem r20_insert {a:Option Addr} {n k:Nat} {ds:List Int} {D:Chunk} (hO:OwnT Go.E.encI 3 1 a n k ds D) {am:Option Addr} {nm km:Nat} {ms:List Int} (hM:RdT Go.E.encI 1 [H] am nm km ms) (fr:Int) (hA:Asc ds) (hmb:∀x∈ms,-1000000<=x/\x<=1000000) (hfr:-1000000<=fr/\fr<=1000000) (hnn:n<=1000000/\nm<=1000000) (hS:Sat W w (D::H::F)):
  Calls prog 58 #[.slice a n k, .slice am nm km,I fr] w fun e w'=>∃(az:Option Addr) (nz kz:Nat) (Z:Chunk),e= .returned (.slice az nz kz)/\OwnT Go.E.encI 3 1 az nz kz (insV fr ms ds) Z/\Sat W w' (Z::H::F):=by
 have hl0:=hO.le;have hn0:=hO.len;have hl1:=hM.le;have hn1:=hM.len
 refine callsA 64 func58 rfl<|sR<|pu1<|zQ<|pu1<|nT<|blockE<|loopA (γ:=Nat×(List Int)×(Option Addr)×Nat×Nat×Chunk) (fun ⟨i,zs,azs,nzs,kzs,czs⟩=>[(1, .slice am nm km),(2,I fr),(7,I (i:Int)),(0, .slice azs nzs kzs)]) (fun ⟨i,zs,azs,nzs,kzs,czs⟩ w=>Sat W w (czs::H::F)/\i<=nm/\(zs=insV fr (ms.take i) ds)/\OwnT Go.E.encI 3 1 azs nzs kzs zs czs) (fun ⟨i,zs,azs,nzs,kzs,czs⟩=>nm-i) (0,ds,a,n,k,D) ⟨hS,om,by rfl,hO⟩ ?_
 rintro ⟨i,zs,azs,nzs,kzs,czs⟩ ρ _ ⟨k0,hi,hE,hOzs⟩
 have hn_zs:=hOzs.len;have hl_zs:=hOzs.le
 refine seqE<|sR<|pu4<|nT<|cD ((i:Int)<(nm:Int)) (fun q0=>?_) (fun q0=>?_)
 rotate_left
 ·refine exitE<|xB<|tN<|sR<|pu2<|zE<|retT [.slice azs nzs kzs] ?_
  have hz:zs=insV fr ms ds:=by rw [hE,List.take_of_length_le om]
  exact ⟨_,_,_,_,rfl,by rw [<-hz];exact hOzs,k0⟩
 refine kT<|seqE<|blockE<|sR<|pu3<|sIdx hM (i:Int) runUnderlying22 sizeOf3 fun a0 _ _ f0 r0=>?_
 rw [Int.toNat_natCast] at f0
 have hmb:=hmb a0 (List.mem_of_getElem? f0)
 refine sLp k0 (r0.up 1 rfl) 0 (I a0) (isAgg3 _)<|sAdd fr a0<|pu1<|nT<|seqE ?_
 have hzl:zs.length<=n+i:=by rw [hE,<-hn0];have h:=insV_len fr (ms.take i) ds;have h2:(ms.take i).length<=i:=(by rw [List.length_take];omega);omega
 have hasc:Asc zs:=hE▸insV_asc hA
 refine rE<|pu3<|nT<|seqE<|blockE<|loopA (γ:=Nat×Int) (fun ⟨k,am_⟩=>[(1, .slice am nm km),(2,I fr),(7,I (i:Int)),(0, .slice azs nzs kzs),(8,I (fr+a0)),(9,I am_)]) (fun ⟨k,am_⟩ w=>Sat W w (czs::H::F)/\k<=zs.length/\(am_=(nzs:Int)-(k:Int))/\(∀x∈zs.drop am_.toNat,(fr+a0)<x)) (fun ⟨k,am_⟩=>zs.length-k) (0,(nzs:Int)) ⟨k0,om,om,(by rw [List.drop_of_length_le om];intro x hx;cases hx)⟩ ?_
 rintro ⟨k,am_⟩ ρ _ ⟨d0,hk,hat,hd⟩
 refine seqE<|sR<|pu3<|sD 26 (am_>0) (fun l0=>?_) (fun l0=>?_)
 rotate_left
 ·refine pu8<|nT<|cFf<|exitE<|xB<|tN<|seqE<|seqE ?_
  have hm9:am_.toNat<=zs.length:=by omega
  refine rE<|pu3<|sFix 39 _ false (decide_eq_false l0)<|pu8<|nT<|cFf<|kS<|pu1<|sBS d0 #[I 0] runUnderlying22 sizeOf3 zeroValue3 fun _ _ s0=>sApp (nb:=8) s0 hOzs 1 (RdT.blk (enc:=Go.E.encI) (sz:=1) (xs:=[0]) fR 1 0 rfl rfl rfl om) underlying22 (i:=Tryz.t3) kr fR fun g0 b0 _ _ i0 t0=>pu1<|nilO ?_
  have hlq:=(i0).le
  refine tN<|seqE<|drawE [7] [] [(true,[0,1]),(true,[2]),(true,[3]),(true,[4,5]),(true,[6]),(false,[7])] rfl kr trivial ?_
  have u0:=t0.drew
  refine wU [0,1]<|wAdd am_ 1 ?_
  have c2:=i0.part (lo:=((am_+1)).toNat) (hi:=(nzs+1)) om om
  refine wY (.slice (partAddr g0 b0 (((am_+1)).toNat) 1) ((nzs+1)-(((am_+1)).toNat)) (b0-(((am_+1)).toNat))) rfl (fun w _=>Y_sl (a:=g0) (len:=(nzs+1)) (cap:=b0) (some (am_+1)) none (((am_+1)).toNat) (nzs+1) runUnderlying22 sizeOf3 ⟨om,om⟩ rfl om om)<|wU [4,5] ?_
  have d2:=i0.part (lo:=(am_).toNat) (hi:=(nzs+1)) om om
  refine wY (.slice (partAddr g0 b0 ((am_).toNat) 1) ((nzs+1)-((am_).toNat)) (b0-((am_).toNat))) rfl (fun w _=>Y_sl (a:=g0) (len:=(nzs+1)) (cap:=b0) (some am_) none ((am_).toNat) (nzs+1) runUnderlying22 sizeOf3 ⟨om,om⟩ rfl om om)<|wO rfl<|sCopy (N:=_) u0 i0 1 (((am_+1)).toNat) ((am_).toNat) om om runUnderlying22 sizeOf3 (fun z v hv=>by simp only [Go.E.encI,List.mem_singleton] at hv;subst hv;rfl) fun _ _ n0 v0=>nilO ⟨trivial,?_⟩
  refine wN<|tN<|rE<|pu3<|sIdxO n0 am_ (am_).toNat runUnderlying22 sizeOf3 fun w0 _ _ x0 _ y0=>sStF v0 n0 y0 1 (am_).toNat 0 w0 (fr+a0) x0 (I (fr+a0)) [I (fr+a0)] sizeOf3 fun _ z0 a1 b1=>nB<|rE<|pu1<|sAdd (i:Int) 1<|pu1<|nT ?_
  have hput:=ins_put hasc hm9 hd (.inl om)
  exact ⟨(i+1,(((zs++[0]).take (((am_+1)).toNat)++((zs++[0]).drop ((am_).toNat)).take ((nzs+1)-(((am_+1)).toNat))).set ((am_).toNat) (fr+a0)),g0,(nzs+1),b0,z0),od,alA,(b1.dropAt 0 rfl),om,(by rw [insV_succ f0,<-hE,show (am_+1).toNat=am_.toNat+1 by omega,<-hn_zs];exact hput),a1⟩
 refine pu2<|gY<|sSub am_ 1<|gY<|sIdxO hOzs (am_-1) ((am_-1)).toNat runUnderlying22 sizeOf3 fun e0 _ _ o0 d1 _=>gY<|sLp d0 (d1.up 0 rfl) 0 (I e0) (isAgg3 _)<|pu3<|nT<|cD (e0>(fr+a0)) (fun e1=>?_) (fun e1=>?_)
 ·refine kT<|blockE<|rE<|pu1<|sSub am_ 1<|pu1<|nB ?_
  exact ⟨(k+1,(am_-1)),od,alA,d0,om,om,(by have h:=drop_lt (m:=(am_-1).toNat) (by rw [show (am_-1).toNat+1=am_.toNat by omega];exact hd) o0 om;exact h)⟩
 refine exitE<|xB<|tN<|seqE<|seqE ?_
 have hm9:am_.toNat<=zs.length:=by omega
 refine rE<|pu3<|sFix 39 _ true (decide_eq_true l0)<|pu2<|gY<|sSub am_ 1<|gY<|sIdxO hOzs (am_-1) ((am_-1)).toNat runUnderlying22 sizeOf3 fun f1 _ _ m0 g1 _=>?_
 obtain rfl:e0=f1:=Option.some.inj (o0.symm.trans m0)
 refine gY<|sLp d0 (g1.up 0 rfl) 0 (I e0) (isAgg3 _)<|pu3<|nT<|cE e0 (fr+a0) (fun h1=>?_) (fun h1=>?_)
 ·refine exitE<|thenK_x<|blockK_x<|tN<|rE<|pu1<|sAdd (i:Int) 1<|pu1<|nT ?_
  exact ⟨(i+1,zs,azs,nzs,kzs,czs),od,alA,d0,om,(by rw [insV_succ f0,<-hE];exact (ins_hit hasc hm9 hd om (by rw [show am_.toNat-1=(am_-1).toNat by omega,m0];congr 1<;>omega)).symm),hOzs⟩
 refine kS<|pu1<|sBS d0 #[I 0] runUnderlying22 sizeOf3 zeroValue3 fun _ _ i1=>sApp (nb:=8) i1 hOzs 1 (RdT.blk (enc:=Go.E.encI) (sz:=1) (xs:=[0]) fR 1 0 rfl rfl rfl om) underlying22 (i:=Tryz.t3) kr fR fun h0 c0 _ _ j0 j1=>pu1<|nilO ?_
 have hlq:=(j0).le
 refine tN<|seqE<|drawE [7] [] [(true,[0,1]),(true,[2]),(true,[3]),(true,[4,5]),(true,[6]),(false,[7])] rfl kr trivial ?_
 have k1:=j1.drew
 refine wU [0,1]<|wAdd am_ 1 ?_
 have w2:=j0.part (lo:=((am_+1)).toNat) (hi:=(nzs+1)) om om
 refine wY (.slice (partAddr h0 c0 (((am_+1)).toNat) 1) ((nzs+1)-(((am_+1)).toNat)) (c0-(((am_+1)).toNat))) rfl (fun w _=>Y_sl (a:=h0) (len:=(nzs+1)) (cap:=c0) (some (am_+1)) none (((am_+1)).toNat) (nzs+1) runUnderlying22 sizeOf3 ⟨om,om⟩ rfl om om)<|wU [4,5] ?_
 have x2:=j0.part (lo:=(am_).toNat) (hi:=(nzs+1)) om om
 refine wY (.slice (partAddr h0 c0 ((am_).toNat) 1) ((nzs+1)-((am_).toNat)) (c0-((am_).toNat))) rfl (fun w _=>Y_sl (a:=h0) (len:=(nzs+1)) (cap:=c0) (some am_) none ((am_).toNat) (nzs+1) runUnderlying22 sizeOf3 ⟨om,om⟩ rfl om om)<|wO rfl<|sCopy (N:=_) k1 j0 1 (((am_+1)).toNat) ((am_).toNat) om om runUnderlying22 sizeOf3 (fun z v hv=>by simp only [Go.E.encI,List.mem_singleton] at hv;subst hv;rfl) fun _ _ p0 l1=>nilO ⟨trivial,?_⟩
 refine wN<|tN<|rE<|pu3<|sIdxO p0 am_ (am_).toNat runUnderlying22 sizeOf3 fun m1 _ _ n1 _ o1=>sStF l1 p0 o1 1 (am_).toNat 0 m1 (fr+a0) n1 (I (fr+a0)) [I (fr+a0)] sizeOf3 fun _ q1 r1 s1=>nB<|rE<|pu1<|sAdd (i:Int) 1<|pu1<|nT ?_
 have hput:=ins_put hasc hm9 hd (.inr ⟨e0,by rw [show am_.toNat-1=(am_-1).toNat by omega];exact m0,om⟩)
 exact ⟨(i+1,(((zs++[0]).take (((am_+1)).toNat)++((zs++[0]).drop ((am_).toNat)).take ((nzs+1)-(((am_+1)).toNat))).set ((am_).toNat) (fr+a0)),h0,(nzs+1),c0,q1),od,alA,(s1.dropAt 0 rfl),om,(by rw [insV_succ f0,<-hE,show (am_+1).toNat=am_.toNat+1 by omega,<-hn_zs];exact hput),r1⟩
end Go.Proofs.YtdingplbadblpaaGreat

namespace Go.Proofs.YtdingplbadblpaaGreat
open Go Go.E Go.Proofs.Tryz
set_option linter.all false
set_option maxRecDepth 100000
set_option maxHeartbeats 2000000
variable {W w:World} {H:Chunk} {F:List Chunk}
structure Grp where
  first:Int
  count:Int
  w:Int
  h:Int
  deriving DecidableEq
def encGrp (x:Grp):List Value:=[.int .i64 x.first, .int .i64 x.count, .int .i64 x.w, .int .i64 x.h]
def cutV (s:StageV) (sh:List Shape) (n:Int):Shape:=if s.kind=4 then shpAt sh s.a else shpAt sh n
theorem cut_v {L:Lay} {n:Int} {s:StageV} (h:L.st n=s):L.cut n=cutV s L.sh n:=by unfold Lay.cut cutV;rw [h]
def ckC (j:JobV) (tw th:Int):Int:=if (shpV j).2.2=0 then (if tileP tw th then 0 else 2) else (shpV j).2.2
def ckN (j:JobV) (tw th:Int):Int:=if ckC j tw th=0 then (layV j tw th).total else 0
def ckS (j:JobV) (tw th:Int):List Shape:=if ckC j tw th=0 then (shpV j).1 else []
theorem low_ck (j:JobV) (tw th:Int):lowC j tw th=if ckC j tw th=0 then (if (layV j tw th).total<=4096 then 0 else 13) else ckC j tw th:=by
  unfold lowC ckC
  by_cases h1:(shpV j).2.2=0
  · rw [if_pos h1,if_pos h1]
    by_cases h2:tileP tw th
    · rw [if_pos h2,if_pos h2,if_pos rfl]
    · rw [if_neg h2,if_neg h2,if_neg (by decide)]
  · rw [if_neg h1,if_neg h1,if_neg h1]
theorem ck_zero {j:JobV} {tw th:Int} (h:ckC j tw th=0):(shpV j).2.2=0/\tileP tw th:=by
  unfold ckC at h
  split at h
  · rename_i h1
    split at h
    · rename_i h2;exact ⟨h1,h2⟩
    · omega
  · rename_i h1;exact absurd h h1
theorem own_if {kd fr i nx:Int} (hi:0<=i):(if kd=5 then (if 0<i%nx then [fr+i-1] else [])++(if nx<=i then [fr+i-nx] else []) else ([]:List Int))=(if kd=5/\i.tmod nx>0 then [fr+i-1] else [])++(if kd=5/\i>=nx then [fr+i-nx] else []):=by
  rw [Int.tmod_eq_emod_of_nonneg hi]
  by_cases h:kd=5<;>simp [h]
def grpV (L:Lay) (y:Int):Grp:=⟨L.first y,L.cnt y,(L.cut y).w,(L.cut y).h⟩
def GrpP (L:Lay) (gs:List Grp) (y:Int):Prop:=0<=y/\y<L.ni+(L.ss.length:Int)/\(y<L.ni\/(y∈L.od/\gs[y.toNat]?=some (grpV L y)))
theorem canon_len (l:List Int):(canonV l).length<=l.length:=by
  have h:=insV_len 0 l []
  have e:=insV_canon 0 l []
  rw [show canonV []=[] from rfl] at e
  rw [e,List.nil_append,show l.map (0+·)=l by simp] at h
  simpa using h
theorem grp_set {L:Lay} (g:LayG L) {gs:List Grp} {i:Nat} {nd:Int} {G:Grp} (h:L.od[i]?=some nd) (hG:∀y∈L.od.take i,gs[y.toNat]?=some (grpV L y)) (hv:G=grpV L nd) (hl:nd.toNat<gs.length):
  ∀y∈L.od.take (i+1),(gs.set nd.toNat G)[y.toNat]?=some (grpV L y):=by
 intro n hn
 have hfa:=g.first_at (take_split h)
 rw [List.take_add_one,h,Option.toList_some] at hn
 rcases List.mem_append.1 hn with hn|hn
 ·have hne:n≠nd:=fun e=>hfa.2 (e▸hn)
  have r1:=g.rng n (List.mem_of_mem_take hn);have r2:=g.rng nd (List.mem_of_getElem? h);have r3:=g.ni
  rw [List.getElem?_set,if_neg om]
  exact hG n hn
 ·simp only [List.mem_singleton] at hn
  subst hn
  rw [List.getElem?_set,if_pos rfl,if_pos hl,hv]
theorem grp_src {L:Lay} (g:LayG L) {gs:List Grp} {i:Nat} {nd:Int} {s:StageV} (h:L.od[i]?=some nd) (hs:L.st nd=s) (hG:∀y∈L.od.take i,gs[y.toNat]?=some (grpV L y)):∀y∈srcs s,GrpP L gs y:=by
  intro y hy
  have h1:=g.src (List.mem_of_getElem? h) y (hs▸hy)
  refine ⟨h1.1,h1.2.1,?_⟩
  rcases (g.bef _ _ _ (take_split h) y (hs▸hy)).2 with h2|h2
  · exact .inl h2
  · exact .inr ⟨List.mem_of_mem_take h2,hG y h2⟩
theorem r20_grid (q:Stage) (ash:Option Addr) (nsh ksh:Nat) (sh:List Shape) (nd:Int) (hq:Stage.Ok [H] q) (hsh:RdT encShape 3 [H] ash nsh ksh sh) (hx:0<=q.a/\q.a<(nsh:Int)/\0<=nd/\nd<(nsh:Int)) (hS:Sat W w (H::F)):
  Ro prog 52 #[.agg (encStage q).toArray, .slice ash nsh ksh,I nd] (.tuple #[I ((cutV q.v sh nd).w),I ((cutV q.v sh nd).h)]) W w (H::F):=by
 have hl_q_weights:=hq.weights.le;have hn_q_weights:=hq.weights.len
 have hl_q_row:=hq.row.le;have hn_q_row:=hq.row.len
 have hl_q_col:=hq.col.le;have hn_q_col:=hq.col.len
 have hl_q_x:=hq.x.le;have hn_q_x:=hq.x.len
 have hl_q_y:=hq.y.le;have hn_q_y:=hq.y.len
 have hl_q_ops:=hq.ops.le;have hn_q_ops:=hq.ops.len
 have hl_sh:=hsh.le;have hn_sh:=hsh.len
 refine callsA 33 func52 rfl<|sR<|sBox hS (.agg (encStage q).toArray) (encStage q).toArray fun i0 _ a0=>pu2<|zQ<|pu1<|sL a0 0 0 (I q.kind) (isAgg3 _)<|pu1<|nT<|cE q.kind 4 (fun h0=>?_) (fun h0=>?_)
 rotate_left
 ·refine kT<|seqE ?_
  obtain ⟨b0,d0,e0,n0,j0,k0⟩:=RdT.elem hsh nd
  refine drawE [] [(4,⟨d0,e0+0,none⟩,I b0.w),(9,⟨d0,e0+1,none⟩,I b0.h)] [(true,[0,1]),(true,[2]),(true,[3,5,6]),(true,[7]),(true,[8]),(true,[4]),(true,[10]),(true,[9]),(true,[11])] rfl kr ⟨.inr ((j0.up 1 rfl).cell a0 (k:=0) rfl), .inr ((j0.up 1 rfl).cell a0 (k:=1) rfl),trivial⟩ ?_
  have o0:=a0.drew
  refine wU [0,1]<|wY (.pointer (some ⟨d0,e0,none⟩)) rfl (fun w _=>Y_idx (a:=ash) (i:=nd) (len:=nsh) (cap:=ksh) rfl runUnderlying61 sizeOf54 kr kr k0)<|wU [3,5,6]<|wY (.pointer (some ⟨d0,e0,none⟩)) rfl (fun w _=>Y_idx (a:=ash) (i:=nd) (len:=nsh) (cap:=ksh) rfl runUnderlying61 sizeOf54 kr kr k0)<|wU [8]<|wLd (I b0.w) 0 isAgg3<|wU [10]<|wLd (I b0.h) 1 isAgg3<|wU [11]<|wN<|tN<|retE<|retT [I b0.w,I b0.h] ?_
  have p0:=(o0.dropAt 0 rfl)
  have hk:cutV q.v sh nd=b0:=by unfold cutV;rw [if_neg (show ¬q.v.kind=4 from h0)];exact shp_at' n0
  exact ⟨by rw [hk];rfl,p0⟩
 refine seqE ?_
 obtain ⟨c0,f0,g0,q0,l0,m0⟩:=RdT.elem hsh q.a
 refine drawE [] [(2,⟨i0,1,none⟩,I q.a),(5,⟨f0,g0+0,none⟩,I c0.w),(8,⟨i0,1,none⟩,I q.a),(11,⟨f0,g0+1,none⟩,I c0.h)] [(true,[0,1,6,7]),(true,[2]),(true,[3]),(true,[4]),(true,[5]),(true,[12]),(true,[8]),(true,[9]),(true,[10]),(true,[11]),(true,[13])] rfl kr ⟨cI a0 0, .inr ((l0.up 1 rfl).cell a0 (k:=0) rfl),cI a0 0, .inr ((l0.up 1 rfl).cell a0 (k:=1) rfl),trivial⟩ ?_
 have r0:=a0.drew
 refine wU [0,1,6,7]<|wLd (I q.a) 0 isAgg3<|wY (.pointer (some ⟨f0,g0,none⟩)) rfl (fun w _=>Y_idx (a:=ash) (i:=q.a) (len:=nsh) (cap:=ksh) rfl runUnderlying61 sizeOf54 kr kr m0)<|wU [4]<|wLd (I c0.w) 1 isAgg3<|wU [12]<|wLd (I q.a) 2 isAgg3<|wY (.pointer (some ⟨f0,g0,none⟩)) rfl (fun w _=>Y_idx (a:=ash) (i:=q.a) (len:=nsh) (cap:=ksh) rfl runUnderlying61 sizeOf54 kr kr m0)<|wU [10]<|wLd (I c0.h) 3 isAgg3<|wU [13]<|wN<|tN<|retE<|tK<|retT [I c0.w,I c0.h] ?_
 have s0:=(r0.dropAt 0 rfl)
 have hk:cutV q.v sh nd=c0:=by unfold cutV;rw [if_pos (show q.v.kind=4 from h0)];exact shp_at' q0
 exact ⟨by rw [hk];rfl,s0⟩
theorem r20_check (p:Job) (tw:Int) (th:Int) (hp:Job.Ok [H] p) (hb:p.inputs.n<=1000000/\p.stages.n<=1000000/\p.outputs.n<=1000000) (hS:Sat W w (H::F)):
  Calls prog 50 #[.agg (encJob p).toArray,I tw,I th] w fun e w'=>∃(az:Option Addr) (nz kz:Nat) (G:Chunk),e= .returned (.tuple #[.slice az nz kz,I (ckN p.v tw th),I (ckC p.v tw th)])/\RdT encShape 3 [G] az nz kz ((ckS p.v tw th))/\Sat W w' (G::H::F):=by
 have hl_p_inputs:=hp.inputs.le;have hn_p_inputs:=hp.inputs.len
 have hl_p_stages:=hp.stages.le;have hn_p_stages:=hp.stages.len
 have hl_p_outputs:=hp.outputs.le;have hn_p_outputs:=hp.outputs.len
 have hpi:p.v.inputs.length=p.inputs.n:=by simp [Job.v,hn_p_inputs]
 have hps:p.v.stages.length=p.stages.n:=by simp [Job.v,hn_p_stages]
 refine callsA 87 func50 rfl<|sR<|sBox hS (.agg (encJob p).toArray) (encJob p).toArray fun g0 _ q0=>pu3<|zS<|lA q0 0 0 4 (isAgg28 _) (sizeOf28 _)<|cX call29 (r17_shapes p ⟨(RdT.flat (hp.inputs.up 1 (by rfl))),(fun z hz=>(hp.inputsD z hz).of_mem (mem_flat1 1 (by rfl))),(RdT.flat (hp.stages.up 1 (by rfl))),(fun z hz=>(hp.stagesD z hz).of_mem (mem_flat1 1 (by rfl))),(RdT.flat (hp.outputs.up 1 (by rfl)))⟩ (od) q0.flat) ?_
 rintro _ _ ⟨i0,j0,k0,r0,rfl,l0,t0⟩
 have h0:=t0.unflat1
 have hn_az_7:=l0.len;have hl_az_7:=l0.le
 refine pu7<|zQ<|pu2<|nT<|cN ((shpV p.v).2.2) 0 (fun u0=>?_) (fun u0=>?_)
 rotate_left
 ·refine sR<|pu4<|zR<|retT [nS,I 0,I ((shpV p.v).2.2)] ?_
  have hk:ckC p.v tw th=(shpV p.v).2.2:=by unfold ckC;rw [if_neg om]
  have hkn:¬ckC p.v tw th=0:=by omega
  have v0:=(h0.drops [0,0])
  have w0:Sat W _ ([]::H::F):=Sat.nilc v0
  have hl:([]:List Shape)=(ckS p.v tw th):=(by unfold ckS;rw [if_neg hkn])
  have hrd:=RdT.nil (enc:=encShape) (sz:=3) fR [[]]
  rw [hl] at hrd
  exact ⟨_,_,_,_,(by unfold ckN;rw [if_neg hkn,hk];rfl),hrd,w0⟩
 refine kT<|seqE<|cutA (γ:=Unit) (fun _=>[(1,I tw),(2,I th),(3,Pt g0 0),(9, .slice i0 j0 k0),(40, .bool (decide (¬((1<=tw/\tw<=64)/\1<=th/\th<=64))))]) (fun _ w=>Sat W w (r0::[(g0, .cells (encJob p).toArray 28 (0,0))]::H::F)) ?_ ?_
 ·refine rE<|pu3<|sD 29 (tw<1) (fun x0=>?_) (fun x0=>?_)
  ·exact pu11<|nT<|⟨(),⟨kr,kr,kr,kr,(Eq.trans (b:= .bool true) kr (congrArg Value.bool (decide_eq_true (p:=¬((1<=tw/\tw<=64)/\1<=th/\th<=64)) om).symm)),trivial⟩,h0⟩
  refine pu4<|sD 33 (tw>64) (fun y0=>?_) (fun y0=>?_)
  ·exact pu7<|nT<|⟨(),⟨kr,kr,kr,kr,(Eq.trans (b:= .bool true) kr (congrArg Value.bool (decide_eq_true (p:=¬((1<=tw/\tw<=64)/\1<=th/\th<=64)) om).symm)),trivial⟩,h0⟩
  refine pu4<|sD 37 (th<1) (fun z0=>?_) (fun z0=>?_)
  ·exact pu3<|nT<|⟨(),⟨kr,kr,kr,kr,(Eq.trans (b:= .bool true) kr (congrArg Value.bool (decide_eq_true (p:=¬((1<=tw/\tw<=64)/\1<=th/\th<=64)) om).symm)),trivial⟩,h0⟩
  exact pu3<|nT<|⟨(),⟨kr,kr,kr,kr,(Eq.trans (b:= .bool (decide (th>64))) kr (congrArg Value.bool bm)),trivial⟩,h0⟩
 rintro _ ρ _ s0
 refine cD (¬((1<=tw/\tw<=64)/\1<=th/\th<=64)) (fun a1=>?_) (fun a1=>?_)
 ·refine sR<|pu3<|zR<|retT [nS,I 0,I 2] ?_
  have hk:ckC p.v tw th=2:=by unfold ckC;rw [if_pos om,if_neg (by unfold tileP;omega)]
  have hkn:¬ckC p.v tw th=0:=by omega
  have b1:=(s0.drops [0,0])
  have d1:Sat W _ ([]::H::F):=Sat.nilc b1
  have hl:([]:List Shape)=(ckS p.v tw th):=(by unfold ckS;rw [if_neg hkn])
  have hrd:=RdT.nil (enc:=encShape) (sz:=3) fR [[]]
  rw [hl] at hrd
  exact ⟨_,_,_,_,(by unfold ckN;rw [if_neg hkn,hk];rfl),hrd,d1⟩
 refine kT<|seqE ?_
 have hz0:(shpV p.v).2.2=0:=by omega
 have htp:tileP tw th:=by unfold tileP;omega
 have hk:ckC p.v tw th=0:=by unfold ckC;rw [if_pos hz0,if_pos htp]
 obtain ⟨L,hL⟩:∃z:Lay,z=layV p.v tw th:=⟨_,rfl⟩
 have hg:LayG L:=hL▸lay_ok (shp_ok hz0) htp
 have hLn:L.ni=(p.inputs.n:Int):=by rw [hL,<-hpi];rfl
 have hLs:L.ss=p.stages.l.map Stage.v:=by rw [hL];rfl
 have hLl:L.ss.length=p.stages.n:=by rw [hLs,List.length_map];exact hn_p_stages
 have hLh:L.sh=(shpV p.v).1:=by rw [hL];rfl
 have hLt:L.tw=tw/\L.th=th:=by rw [hL];exact ⟨rfl,rfl⟩
 have hgn:=hg.ni;rw [hLn,hLl] at hgn;have hgl:=hg.len;rw [hLn,hLl] at hgl;have htl:=hg.tl;rw [hLt.1,hLt.2] at htl;unfold tileP at htl;have htb:=hg.totb
 rw [hLh] at hgl
 refine rE<|pu1<|zQ<|pu1<|nT<|blockE<|loopA (γ:=Nat×Int) (fun ⟨i,c1⟩=>[(1,I tw),(2,I th),(3,Pt g0 0),(9, .slice i0 j0 k0),(13,I (i:Int)),(12,I c1)]) (fun ⟨i,c1⟩ w=>Sat W w (r0::[(g0, .cells (encJob p).toArray 28 (0,0))]::H::F)/\i<=p.stages.n/\(c1=((ixs L i).map L.cnt).sum)) (fun ⟨i,c1⟩=>p.stages.n-i) (0,0) ⟨s0,om,by rfl⟩ ?_
 rintro ⟨i,c1⟩ ρ _ ⟨b0,hi,hE⟩
 have hcb0:=ixs_bd (L:=L) (f:=L.cnt) (B:=16385) i (fun k hk=>by have h:=hg.cntb (hg.ix (i:=k) om);omega)
 refine seqE<|sR<|pu2<|sL b0 1 1 (.slice p.stages.a p.stages.n p.stages.k) (isAgg26 _)<|pu2<|nT<|cD ((i:Int)<(p.stages.n:Int)) (fun e1=>?_) (fun e1=>?_)
 rotate_left
 ·refine exitE<|xB<|tN<|sR<|pu5<|zE<|retT [.slice i0 j0 k0,I c1,I 0] ?_
  have hto:c1=(layV p.v tw th).total:=by rw [hE,<-hL,<-hg.total_ix,hLl,show i=p.stages.n by omega]
  have f1:=(b0.dropAt 1 rfl)
  have hl:((shpV p.v).1)=(ckS p.v tw th):=(by unfold ckS;rw [if_pos hk])
  have hrd:=l0
  rw [hl] at hrd
  exact ⟨_,_,_,_,(by unfold ckN;rw [if_pos hk,hk,<-hto];rfl),hrd,f1⟩
 refine kT<|seqE<|blockE<|seqE ?_
 obtain ⟨a0,c0,d0,f0,e0,g1⟩:=RdT.elem hp.stages (i:Int)
 rw [Int.toNat_natCast] at f0
 have hnd:((p.inputs.n:Int)+(i:Int))∈L.od:=hLn▸hg.ix (i:=i) om
 have hst:L.st ((p.inputs.n:Int)+(i:Int))=a0.v:=by unfold Lay.st;rw [hLs,hLn];exact stg_at (by rw [show (((p.inputs.n:Int)+(i:Int))-(p.inputs.n:Int)).toNat=i by omega];exact map_at (f:=Stage.v) f0)
 have hsr:=hg.src hnd a0.a (by rw [hst];exact a_src _);rw [hLn,hLl] at hsr
 refine drawE [11] [(1,⟨g0,1,none⟩, .slice p.stages.a p.stages.n p.stages.k),(4,⟨c0,d0+0,none⟩,I a0.kind),(4,⟨c0,d0+1,none⟩,I a0.a),(4,⟨c0,d0+2,none⟩,I a0.b),(4,⟨c0,d0+3,none⟩, .bool a0.barrier),(4,⟨c0,d0+4,none⟩,I a0.edgePolicy),(4,⟨c0,d0+5,none⟩,I a0.edgeFill),(4,⟨c0,d0+6,none⟩,I a0.kW),(4,⟨c0,d0+7,none⟩,I a0.kH),(4,⟨c0,d0+8,none⟩, .slice a0.weights.a a0.weights.n a0.weights.k),(4,⟨c0,d0+9,none⟩, .slice a0.row.a a0.row.n a0.row.k),(4,⟨c0,d0+10,none⟩, .slice a0.col.a a0.col.n a0.col.k),(4,⟨c0,d0+11,none⟩,I a0.shift),(4,⟨c0,d0+12,none⟩,I a0.shift2),(4,⟨c0,d0+13,none⟩, .slice a0.x.a a0.x.n a0.x.k),(4,⟨c0,d0+14,none⟩, .slice a0.y.a a0.y.n a0.y.k),(4,⟨c0,d0+15,none⟩,I a0.bins),(4,⟨c0,d0+16,none⟩, .slice a0.ops.a a0.ops.n a0.ops.k),(4,⟨c0,d0+17,none⟩,I a0.max_),(7,⟨g0,0,none⟩, .slice p.inputs.a p.inputs.n p.inputs.k)] [(true,[0,2,5,6,9]),(true,[1]),(true,[3]),(true,[4]),(true,[7]),(true,[8]),(true,[10]),(false,[11]),(true,[12]),(true,[13]),(true,[14]),(true,[15,16])] rfl kr ⟨cI b0 1, .inr ((e0.up 2 rfl).cell b0 (k:=0) rfl), .inr ((e0.up 2 rfl).cell b0 (k:=1) rfl), .inr ((e0.up 2 rfl).cell b0 (k:=2) rfl), .inr ((e0.up 2 rfl).cell b0 (k:=3) rfl), .inr ((e0.up 2 rfl).cell b0 (k:=4) rfl), .inr ((e0.up 2 rfl).cell b0 (k:=5) rfl), .inr ((e0.up 2 rfl).cell b0 (k:=6) rfl), .inr ((e0.up 2 rfl).cell b0 (k:=7) rfl), .inr ((e0.up 2 rfl).cell b0 (k:=8) rfl), .inr ((e0.up 2 rfl).cell b0 (k:=9) rfl), .inr ((e0.up 2 rfl).cell b0 (k:=10) rfl), .inr ((e0.up 2 rfl).cell b0 (k:=11) rfl), .inr ((e0.up 2 rfl).cell b0 (k:=12) rfl), .inr ((e0.up 2 rfl).cell b0 (k:=13) rfl), .inr ((e0.up 2 rfl).cell b0 (k:=14) rfl), .inr ((e0.up 2 rfl).cell b0 (k:=15) rfl), .inr ((e0.up 2 rfl).cell b0 (k:=16) rfl), .inr ((e0.up 2 rfl).cell b0 (k:=17) rfl),cI b0 1,trivial⟩ ?_
 have h1:=b0.drew
 refine wU [0,2,5,6,9]<|wLd (.slice p.stages.a p.stages.n p.stages.k) 0 isAgg26<|wY (.pointer (some ⟨c0,d0,none⟩)) rfl (fun w _=>Y_idx (a:=p.stages.a) (i:=(i:Int)) (len:=p.stages.n) (cap:=p.stages.k) rfl runUnderlying26 sizeOf38 kr kr g1)<|wY (.agg (encStage a0).toArray) rfl (fun w hF=>Y_loadF rfl (isAgg38 w) (sizeOf38 w) kr rfl ⟨hF 1 _ _ rfl,hF 2 _ _ rfl,hF 3 _ _ rfl,hF 4 _ _ rfl,hF 5 _ _ rfl,hF 6 _ _ rfl,hF 7 _ _ rfl,hF 8 _ _ rfl,hF 9 _ _ rfl,hF 10 _ _ rfl,hF 11 _ _ rfl,hF 12 _ _ rfl,hF 13 _ _ rfl,hF 14 _ _ rfl,hF 15 _ _ rfl,hF 16 _ _ rfl,hF 17 _ _ rfl,hF 18 _ _ rfl,trivial⟩)<|wLd (.slice p.inputs.a p.inputs.n p.inputs.k) 19 isAgg25 ?_
 refine wU [8]<|wAdd (p.inputs.n:Int) (i:Int)<|wO rfl ?_
 refine cR call52 (r20_grid a0 i0 j0 k0 ((shpV p.v).1) ((p.inputs.n:Int)+(i:Int)) ⟨(RdT.flat ((hp.stagesD a0 (List.mem_of_getElem? f0)).weights.up 2 (by rfl))),(RdT.flat ((hp.stagesD a0 (List.mem_of_getElem? f0)).row.up 2 (by rfl))),(RdT.flat ((hp.stagesD a0 (List.mem_of_getElem? f0)).col.up 2 (by rfl))),(RdT.flat ((hp.stagesD a0 (List.mem_of_getElem? f0)).x.up 2 (by rfl))),(fun z hz=>((hp.stagesD a0 (List.mem_of_getElem? f0)).xD z hz).of_mem (mem_flat1 2 (by rfl))),(RdT.flat ((hp.stagesD a0 (List.mem_of_getElem? f0)).y.up 2 (by rfl))),(fun z hz=>((hp.stagesD a0 (List.mem_of_getElem? f0)).yD z hz).of_mem (mem_flat1 2 (by rfl))),(RdT.flat ((hp.stagesD a0 (List.mem_of_getElem? f0)).ops.up 2 (by rfl)))⟩ (RdT.flat (l0.up 0 (by rfl))) (od) h1.flat) ?_
 intro _ n0
 refine nilO ⟨⟨cI n0 1,dI,dI,dI,dI,dI,dI,dI,dI,dI,dI,dI,dI,dI,dI,dI,dI,dI,dI,cI n0 1,trivial⟩,?_⟩
 refine wU [12]<|wU [13]<|wU [14]<|wU [15,16]<|wN ?_
 obtain ⟨m,hm⟩:∃z:Shape,z=L.cut ((p.inputs.n:Int)+(i:Int)):=⟨_,rfl⟩;have hmc:cutV a0.v (shpV p.v).1 ((p.inputs.n:Int)+(i:Int))=m:=(by rw [hm,cut_v hst,hLh]);rw [hmc]
 have hfi:=hg.fine hnd;rw [<-hm,hLt.1,hLt.2] at hfi;have hcs:=hg.cutsz hnd;rw [<-hm] at hcs;unfold szP at hcs;have hgr:=hg.grid hnd;have hcb:=hg.cntb hnd
 refine tN<|sR<|pu4<|cR call53 (r5_count m.w m.h tw th n0.flat) fun _ m0=>pu5<|nilO ?_
 obtain ⟨nx,hnx⟩:∃z,z=colsN m.w m.h tw th:=⟨_,rfl⟩;obtain ⟨ny,hny⟩:∃z,z=rowsN m.w m.h tw th:=⟨_,rfl⟩;rw [<-hnx,<-hny]
 have hnx2:L.nx ((p.inputs.n:Int)+(i:Int))=nx:=by unfold Lay.nx;rw [<-hm,hLt.1,hLt.2,hnx]
 have hny2:L.ny ((p.inputs.n:Int)+(i:Int))=ny:=by unfold Lay.ny;rw [<-hm,hLt.1,hLt.2,hny]
 rw [hnx2,hny2] at hgr
 refine tN<|sR<|pu3<|sMul nx ny<|sAdd c1 (nx*ny)<|pu1<|zS<|pu1<|sL m0 1 1 (.slice p.stages.a p.stages.n p.stages.k) (isAgg26 _)<|pu1<|sIdx hp.stages (i:Int) runUnderlying26 sizeOf38 fun i1 _ _ o0 j1=>?_
 rw [Int.toNat_natCast] at o0
 obtain rfl:a0=i1:=Option.some.inj (f0.symm.trans o0)
 have hnd:((p.inputs.n:Int)+(i:Int))∈L.od:=hLn▸hg.ix (i:=i) om
 have hst:L.st ((p.inputs.n:Int)+(i:Int))=a0.v:=by unfold Lay.st;rw [hLs,hLn];exact stg_at (by rw [show (((p.inputs.n:Int)+(i:Int))-(p.inputs.n:Int)).toNat=i by omega];exact map_at (f:=Stage.v) o0)
 have hsr:=hg.src hnd a0.a (by rw [hst];exact a_src _);rw [hLn,hLl] at hsr
 refine pu1<|sLp m0 (j1.up 2 rfl) 0 (I a0.kind) (isAgg3 _)<|pu1<|nT<|cE a0.kind 4 (fun p0=>?_) (fun p0=>?_)
 rotate_left
 ·refine skipE<|bN<|tN<|rE<|pu1<|sAdd (i:Int) 1<|pu1<|nT ?_
  have hcn:L.cnt ((p.inputs.n:Int)+(i:Int))=nx*ny:=by unfold Lay.cnt;rw [hst,if_neg (show ¬a0.v.kind=4 from p0),hnx2,hny2]
  exact ⟨(i+1,(c1+(nx*ny))),od,alA,m0,om,(by rw [ixs_sum,hLn,<-hE,hcn])⟩
 refine rE<|pu1<|sAdd (c1+(nx*ny)) 1<|pu1<|nB<|rE<|pu1<|sAdd (i:Int) 1<|pu1<|nT ?_
 have hcn:L.cnt ((p.inputs.n:Int)+(i:Int))=nx*ny+1:=by unfold Lay.cnt;rw [hst,if_pos (show a0.v.kind=4 from p0),hnx2,hny2]
 exact ⟨(i+1,((c1+(nx*ny))+1)),od,alA,m0,om,(by rw [ixs_sum,hLn,<-hE,hcn];omega)⟩
theorem r20_depends (p:Job) (q:Stage) (ags:Option Addr) (ngs kgs:Nat) (gs:List Grp) (tw:Int) (th:Int) (r:Rct) (hp:Job.Ok [H] p) (hq:Stage.Ok [H] q) (hgs:RdT encGrp 4 [H] ags ngs kgs gs) (hb:p.inputs.n<=1000000/\p.stages.n<=1000000/\p.outputs.n<=1000000) (hg:LayG (layV p.v tw th)) (hG:∀y∈srcs q.v,GrpP (layV p.v tw th) gs y) (hr:inP r) (hS:Sat W w (H::F)):
  Calls prog 57 #[.agg (encJob p).toArray, .agg (encStage q).toArray, .slice ags ngs kgs,I tw,I th, .agg (encRct r).toArray] w fun e w'=>∃(az:Option Addr) (nz kz:Nat) (G:Chunk),e= .returned (.slice az nz kz)/\OwnT Go.E.encI 3 1 az nz kz (canonV ((layV p.v tw th).needs q.v r)) G/\Sat W w' (G::H::F):=by
 have hl_p_inputs:=hp.inputs.le;have hn_p_inputs:=hp.inputs.len
 have hl_p_stages:=hp.stages.le;have hn_p_stages:=hp.stages.len
 have hl_p_outputs:=hp.outputs.le;have hn_p_outputs:=hp.outputs.len
 have hl_q_weights:=hq.weights.le;have hn_q_weights:=hq.weights.len
 have hl_q_row:=hq.row.le;have hn_q_row:=hq.row.len
 have hl_q_col:=hq.col.le;have hn_q_col:=hq.col.len
 have hl_q_x:=hq.x.le;have hn_q_x:=hq.x.len
 have hl_q_y:=hq.y.le;have hn_q_y:=hq.y.len
 have hl_q_ops:=hq.ops.le;have hn_q_ops:=hq.ops.len
 have hl_gs:=hgs.le;have hn_gs:=hgs.len
 have hpi:p.v.inputs.length=p.inputs.n:=by simp [Job.v,hn_p_inputs]
 have hps:p.v.stages.length=p.stages.n:=by simp [Job.v,hn_p_stages]
 obtain ⟨L,hL⟩:∃z:Lay,z=layV p.v tw th:=⟨_,rfl⟩
 rw [<-hL] at hg hG
 have hLn:L.ni=(p.inputs.n:Int):=by rw [hL,<-hpi];rfl
 have hLs:L.ss=p.stages.l.map Stage.v:=by rw [hL];rfl
 have hLl:L.ss.length=p.stages.n:=by rw [hLs,List.length_map];exact hn_p_stages
 have hLh:L.sh=(shpV p.v).1:=by rw [hL];rfl
 have hLt:L.tw=tw/\L.th=th:=by rw [hL];exact ⟨rfl,rfl⟩
 have hgn:=hg.ni;rw [hLn,hLl] at hgn;have hgl:=hg.len;rw [hLn,hLl] at hgl;have htl:=hg.tl;rw [hLt.1,hLt.2] at htl;unfold tileP at htl;have htb:=hg.totb
 have hr0:=hr;unfold inP at hr0
 refine callsA 87 func57 rfl<|sR<|sBox hS (.agg (encJob p).toArray) (encJob p).toArray fun j0 _ n1=>sBox n1 (.agg (encStage q).toArray) (encStage q).toArray fun d0 _ o1=>sBox o1 (.agg (encRct r).toArray) (encRct r).toArray fun g0 _ c1=>pu1<|zS<|pu1<|zS<|lA c1 1 0 18 (isAgg38 _) (sizeOf38 _)<|cX call95 (r15_sources q ⟨(RdT.flat (hq.weights.up 3 (by rfl))),(RdT.flat (hq.row.up 3 (by rfl))),(RdT.flat (hq.col.up 3 (by rfl))),(RdT.flat (hq.x.up 3 (by rfl))),(fun z hz=>(hq.xD z hz).of_mem (mem_flat1 3 (by rfl))),(RdT.flat (hq.y.up 3 (by rfl))),(fun z hz=>(hq.yD z hz).of_mem (mem_flat1 3 (by rfl))),(RdT.flat (hq.ops.up 3 (by rfl)))⟩ c1.flat) ?_
 rintro _ _ ⟨s0,i0,t0,q1,rfl,k0,r1⟩
 have s1:=r1.unflat1
 have hn_az_13:=k0.len;have hl_az_13:=k0.le
 have u3:1<=(srcs q.v).length/\(srcs q.v).length<=2:=srcs_len _
 refine pu1<|zQ<|pu1<|nT<|blockE ?_
 have t1:=Sat.nilc s1
 refine loopA (γ:=Nat×(List Int)×(Option Addr)×Nat×Nat×Chunk) (fun ⟨i,zs,azs,nzs,kzs,czs⟩=>[(2, .slice ags ngs kgs),(3,I tw),(4,I th),(6,Pt j0 0),(7,Pt d0 0),(11,Pt g0 0),(14, .slice s0 i0 t0),(15,I (i:Int)),(13, .slice azs nzs kzs)]) (fun ⟨i,zs,azs,nzs,kzs,czs⟩ w=>Sat W w (czs::q1::[(g0, .cells (encRct r).toArray 44 (0,0))]::[(d0, .cells (encStage q).toArray 38 (0,0))]::[(j0, .cells (encJob p).toArray 28 (0,0))]::H::F)/\i<=i0/\(zs=canonV (((srcs q.v).take i).flatMap (L.srcDeps q.v r)))/\OwnT Go.E.encI 3 1 azs nzs kzs zs czs) (fun ⟨i,zs,azs,nzs,kzs,czs⟩=>i0-i) (0,[],none,0,0,[]) ⟨t1,om,by rfl,(OwnT.nil (enc:=Go.E.encI) (E:=3) (sz:=1) fR)⟩ ?_
 rintro ⟨i,zs,azs,nzs,kzs,czs⟩ ρ _ ⟨o0,hi,hE,hOzs⟩
 have hn_zs:=hOzs.len;have hl_zs:=hOzs.le
 have hzl:zs.length<=40000:=by rw [hE];have h0:=canon_len (((srcs q.v).take i).flatMap (L.srcDeps q.v r));have h:=flat_len2 (s:=q.v) (r:=r) hg ((srcs q.v).take i) (fun y hy=>(hG y (List.mem_of_mem_take hy)).2.2.imp id And.left);have h2:((srcs q.v).take i).length<=2:=(by rw [List.length_take];have:=srcs_len q.v;omega);omega
 refine seqE<|sR<|pu4<|nT<|cD ((i:Int)<(i0:Int)) (fun v1=>?_) (fun v1=>?_)
 rotate_left
 ·refine exitE<|xB<|tN<|sR<|pu2<|zE<|retT [.slice azs nzs kzs] ?_
  have w1:=(o0.drops [1,1,1,1])
  have hl:zs=canonV ((layV p.v tw th).needs q.v r):=(by rw [hE,List.take_of_length_le om,hL];rfl)
  have hrd:=hOzs
  rw [hl] at hrd
  exact ⟨_,_,_,_,rfl,hrd,w1⟩
 refine kT<|seqE<|blockE<|seqE<|seqE ?_
 obtain ⟨b0,d1,e1,f0,z1,a2⟩:=RdT.elem k0 (i:Int)
 rw [Int.toNat_natCast] at f0
 have hs:=hG b0 (List.mem_of_getElem? f0);unfold GrpP at hs;rw [hLn,hLl] at hs
 refine drawE [] [(3,⟨d1,e1,none⟩,I b0),(5,⟨j0,0,none⟩, .slice p.inputs.a p.inputs.n p.inputs.k)] [(true,[0,1]),(true,[2]),(true,[4]),(true,[3]),(true,[5]),(true,[6,7])] rfl kr ⟨.inr ((z1.up 1 rfl).cell o0 (k:=0) rfl),cI o0 4,trivial⟩ ?_
 have p0:=o0.drew
 refine wU [0,1]<|wY (.pointer (some ⟨d1,e1,none⟩)) rfl (fun w _=>Y_idx (a:=s0) (i:=(i:Int)) (len:=i0) (cap:=t0) rfl runUnderlying22 sizeOf3 kr kr a2)<|wU [4]<|wLd (I b0) 0 isAgg3<|wLd (.slice p.inputs.a p.inputs.n p.inputs.k) 1 isAgg25<|wU [6,7]<|wN<|tN<|cD (b0<(p.inputs.n:Int)) (fun l0=>?_) (fun l0=>?_)
 ·refine exitE<|thenK_x<|blockK_x<|tN<|rE<|pu1<|sAdd (i:Int) 1<|pu1<|nT ?_
  exact ⟨(i+1,zs,azs,nzs,kzs,czs),od,alA,p0,om,(by rw [take_flat (f:=(L.srcDeps q.v r)) f0,show (L.srcDeps q.v r) b0=[] from by unfold Lay.srcDeps;rw [if_pos (by rw [hLn];exact l0)],List.append_nil];exact hE),hOzs⟩
 refine kT<|seqE ?_
 obtain ⟨hmem,hgq⟩:=hs.2.2.resolve_left om;have hb1:=(List.getElem?_eq_some_iff.1 hgq).1;have hfb:=hg.firstb hmem;have hcb:=hg.cntb hmem;have hrn:=hg.rng b0 hmem;rw [hLn,hLl] at hrn
 refine rE<|pu3<|sIdx k0 (i:Int) runUnderlying22 sizeOf3 fun b2 _ _ u0 c2=>?_
 rw [Int.toNat_natCast] at u0
 obtain rfl:b0=b2:=Option.some.inj (f0.symm.trans u0)
 have hs:=hG b0 (List.mem_of_getElem? u0);unfold GrpP at hs;rw [hLn,hLl] at hs
 refine sLp p0 (c2.up 1 rfl) 0 (I b0) (isAgg3 _)<|sIdx hgs b0 runUnderlying104 sizeOf109 fun a0 _ _ d2 e2=>?_
 have hgy:grpV L b0=a0:=Option.some.inj (hgq.symm.trans d2);have hf:L.first b0=a0.first:=congrArg Grp.first hgy;have hc:L.cnt b0=a0.count:=congrArg Grp.count hgy;have hw:(L.cut b0).w=a0.w:=congrArg Grp.w hgy;have hh:(L.cut b0).h=a0.h:=congrArg Grp.h hgy
 refine sLpA p0 (e2.up 5 rfl) 0 (encGrp a0) (isAgg109 _) (sizeOf109 _)<|sAlloc p0 zeroValue109 fun m0 _ f2=>?_
 refine sT f2 0 0 (.agg (encGrp a0).toArray) (encGrp a0) (encGrp a0).toArray sizeOf109 fun _ e0=>nT<|blockE<|sR<|pu1<|sL e0 4 3 (.bool q.barrier) (isAgg4 _)<|pu1<|nT<|cB q.barrier (fun q0=>?_) (fun q0=>?_)
 ·refine drawE [3,6] [(2,⟨m0,1,none⟩,I a0.count),(5,⟨m0,0,none⟩,I a0.first)] [(true,[0,1,4]),(true,[2]),(true,[5]),(false,[3]),(false,[6]),(true,[7])] rfl kr ⟨cI e0 0,cI e0 0,trivial⟩ ?_
  have g2:=e0.drew
  refine wU [0,1,4]<|wLd (I a0.count) 0 isAgg3<|wLd (I a0.first) 1 isAgg3<|wO rfl<|cX call59 (r20_upto a0.count (od) g2.flat) ?_
  rintro _ _ ⟨_,_,_,_,rfl,v0,i2⟩
  have f1:=i2.unflat1
  have hn_az_52:=v0.len;have hl_az_52:=v0.le
  have hul:=hn_az_52;rw [upto_len] at hul
  refine nilO ⟨⟨dI,cI f1 1,trivial⟩,?_⟩
  refine wO rfl ?_
  have j2:=(f1.pick 2 rfl)
  refine cX call58 (r20_insert hOzs (ms:=(uptoV a0.count.toNat)) (RdT.flat (v0.rdAt 0 (by rfl))) a0.first (by rw [hE];exact asc_canon _) (fun x hx=>by have h:=mem_upto.1 hx;omega) om om j2.flat1) ?_
  rintro _ _ ⟨k2,l2,m2,n2,rfl,w0,o2⟩
  have q2:=o2.unflat1;have hn_az_61:=w0.len;have hl_az_61:=w0.le
  refine nilO ⟨dA,?_⟩
  refine wU [7]<|wN<|bN<|bN<|tN<|rE<|pu1<|sAdd (i:Int) 1<|pu1<|nT ?_
  have hdp:(L.srcDeps q.v r) b0=(uptoV a0.count.toNat).map (a0.first+·):=by unfold Lay.srcDeps;rw [if_neg (show ¬b0<L.ni by rw [hLn];exact l0),if_pos (show q.v.barrier=true from q0),hf,hc]
  exact ⟨(i+1,(insV a0.first (uptoV a0.count.toNat) zs),k2,l2,m2,n2),od,alA,(q2.drops [1,1]),om,(by rw [take_flat (f:=(L.srcDeps q.v r)) f0,hdp,<-insV_canon,<-hE]),w0⟩
 refine seqE ?_
 obtain ⟨s2,g1,h1,i1,t2,u2⟩:=RdT.elem k0 (i:Int)
 rw [Int.toNat_natCast] at i1
 obtain rfl:b0=s2:=Option.some.inj (f0.symm.trans i1)
 obtain ⟨n0,j1,k1,v2,w2,x2⟩:=RdT.elem hp.stages (b0-(p.inputs.n:Int))
 have hst:L.st b0=n0.v:=by unfold Lay.st;rw [hLs,hLn];exact stg_at (by rw [show (b0-(p.inputs.n:Int)).toNat=(b0-(p.inputs.n:Int)).toNat from rfl];exact map_at (f:=Stage.v) v2)
 refine drawE [] [(1,⟨j0,1,none⟩, .slice p.stages.a p.stages.n p.stages.k),(5,⟨g1,h1,none⟩,I b0),(7,⟨j0,0,none⟩, .slice p.inputs.a p.inputs.n p.inputs.k),(12,⟨j1,k1+0,none⟩,I n0.kind)] [(true,[0,2,3]),(true,[4]),(true,[6]),(true,[1]),(true,[5]),(true,[7]),(true,[8]),(true,[9]),(true,[10]),(true,[11]),(true,[12]),(true,[13,14])] rfl kr ⟨cI e0 5, .inr ((t2.up 2 rfl).cell e0 (k:=0) rfl),cI e0 5, .inr ((w2.up 6 rfl).cell e0 (k:=0) rfl),trivial⟩ ?_
 have c0:=e0.drew
 refine wU [0,2,3]<|wY (.pointer (some ⟨g1,h1,none⟩)) rfl (fun w _=>Y_idx (a:=s0) (i:=(i:Int)) (len:=i0) (cap:=t0) rfl runUnderlying22 sizeOf3 kr kr u2)<|wU [6]<|wLd (.slice p.stages.a p.stages.n p.stages.k) 0 isAgg26<|wLd (I b0) 1 isAgg3<|wLd (.slice p.inputs.a p.inputs.n p.inputs.k) 2 isAgg25<|wU [8]<|wSub b0 (p.inputs.n:Int)<|wY (.pointer (some ⟨j1,k1,none⟩)) rfl (fun w _=>Y_idx (a:=p.stages.a) (i:=(b0-(p.inputs.n:Int))) (len:=p.stages.n) (cap:=p.stages.k) rfl runUnderlying26 sizeOf38 kr kr x2)<|wU [11]<|wLd (I n0.kind) 3 isAgg3<|wU [13,14]<|wN<|tN<|cE n0.kind 4 (fun r0=>?_) (fun r0=>?_)
 ·refine rE<|pu2<|sL c0 0 1 (I a0.count) (isAgg3 _)<|sSub a0.count 1<|sBS c0 #[I (a0.count-1)] runUnderlying22 sizeOf3 zeroValue3 fun _ _ l1=>pu1<|sL l1 1 0 (I a0.first) (isAgg3 _) ?_
  have y2:=(l1.pick 2 rfl)
  refine cX call58 (r20_insert hOzs (ms:=([(a0.count-1)])) (RdT.flat (RdT.blk (enc:=Go.E.encI) (sz:=1) (xs:=[(a0.count-1)]) (fun _=>(by rfl)) 1 0 rfl rfl rfl om)) a0.first (by rw [hE];exact asc_canon _) (fun x hx=>by rw [List.mem_singleton.1 hx];omega) om om y2.flat1) ?_
  rintro _ _ ⟨z2,a3,b3,c3,rfl,z0,d3⟩
  have e3:=d3.unflat1;have hn_az_88:=z0.len;have hl_az_88:=z0.le
  refine pu1<|nilO<|bN<|bN<|tN<|rE<|pu1<|sAdd (i:Int) 1<|pu1<|nT ?_
  have hdp:(L.srcDeps q.v r) b0=[a0.count-1].map (a0.first+·):=by unfold Lay.srcDeps;rw [if_neg (show ¬b0<L.ni by rw [hLn];exact l0),if_neg (show ¬q.v.barrier=true from q0),if_pos (show (L.st b0).kind=4 by rw [hst];exact r0),hf,hc,List.map_cons,List.map_nil,Int.add_sub_assoc]
  exact ⟨(i+1,(insV a0.first ([(a0.count-1)]) zs),z2,a3,b3,c3),od,alA,(e3.drops [1,1]),om,(by rw [take_flat (f:=(L.srcDeps q.v r)) f0,hdp,<-insV_canon,<-hE]),z0⟩
 refine drawE [9,12] [(1,⟨d0,0,none⟩,I q.kind),(1,⟨d0,1,none⟩,I q.a),(1,⟨d0,2,none⟩,I q.b),(1,⟨d0,3,none⟩, .bool q.barrier),(1,⟨d0,4,none⟩,I q.edgePolicy),(1,⟨d0,5,none⟩,I q.edgeFill),(1,⟨d0,6,none⟩,I q.kW),(1,⟨d0,7,none⟩,I q.kH),(1,⟨d0,8,none⟩, .slice q.weights.a q.weights.n q.weights.k),(1,⟨d0,9,none⟩, .slice q.row.a q.row.n q.row.k),(1,⟨d0,10,none⟩, .slice q.col.a q.col.n q.col.k),(1,⟨d0,11,none⟩,I q.shift),(1,⟨d0,12,none⟩,I q.shift2),(1,⟨d0,13,none⟩, .slice q.x.a q.x.n q.x.k),(1,⟨d0,14,none⟩, .slice q.y.a q.y.n q.y.k),(1,⟨d0,15,none⟩,I q.bins),(1,⟨d0,16,none⟩, .slice q.ops.a q.ops.n q.ops.k),(1,⟨d0,17,none⟩,I q.max_),(3,⟨m0,2,none⟩,I a0.w),(5,⟨m0,3,none⟩,I a0.h),(8,⟨g0,0,none⟩,I r.x0),(8,⟨g0,1,none⟩,I r.y0),(8,⟨g0,2,none⟩,I r.x1),(8,⟨g0,3,none⟩,I r.y1),(11,⟨m0,0,none⟩,I a0.first)] [(true,[0,2,4,6,7,10]),(true,[1]),(true,[3]),(true,[5]),(true,[8]),(true,[11]),(false,[9]),(false,[12]),(true,[13])] rfl kr ⟨cI c0 4,cI c0 4,cI c0 4,cI c0 4,cI c0 4,cI c0 4,cI c0 4,cI c0 4,cI c0 4,cI c0 4,cI c0 4,cI c0 4,cI c0 4,cI c0 4,cI c0 4,cI c0 4,cI c0 4,cI c0 4,cI c0 0,cI c0 0,cI c0 3,cI c0 3,cI c0 3,cI c0 3,cI c0 0,trivial⟩ ?_
 have g3:=c0.drew
 refine wU [0,2,4,6,7,10]<|wY (.agg (encStage q).toArray) rfl (fun w hF=>Y_loadF rfl (isAgg38 w) (sizeOf38 w) kr rfl ⟨hF 0 _ _ rfl,hF 1 _ _ rfl,hF 2 _ _ rfl,hF 3 _ _ rfl,hF 4 _ _ rfl,hF 5 _ _ rfl,hF 6 _ _ rfl,hF 7 _ _ rfl,hF 8 _ _ rfl,hF 9 _ _ rfl,hF 10 _ _ rfl,hF 11 _ _ rfl,hF 12 _ _ rfl,hF 13 _ _ rfl,hF 14 _ _ rfl,hF 15 _ _ rfl,hF 16 _ _ rfl,hF 17 _ _ rfl,trivial⟩)<|wLd (I a0.w) 18 isAgg3<|wLd (I a0.h) 19 isAgg3<|wY (.agg (encRct r).toArray) rfl (fun w hF=>Y_loadF rfl (isAgg44 w) (sizeOf44 w) kr rfl ⟨hF 20 _ _ rfl,hF 21 _ _ rfl,hF 22 _ _ rfl,hF 23 _ _ rfl,trivial⟩)<|wLd (I a0.first) 24 isAgg3<|wO rfl ?_
 refine cX call99 (r16_tiles q a0.w a0.h tw th r ⟨(RdT.flat (hq.weights.up 6 (by rfl))),(RdT.flat (hq.row.up 6 (by rfl))),(RdT.flat (hq.col.up 6 (by rfl))),(RdT.flat (hq.x.up 6 (by rfl))),(fun z hz=>(hq.xD z hz).of_mem (mem_flat1 6 (by rfl))),(RdT.flat (hq.y.up 6 (by rfl))),(fun z hz=>(hq.yD z hz).of_mem (mem_flat1 6 (by rfl))),(RdT.flat (hq.ops.up 6 (by rfl)))⟩ hr g3.flat) ?_
 rintro _ _ ⟨_,_,_,_,rfl,a1,h3⟩
 have m1:=h3.unflat1
 have hn_az_98:=a1.len;have hl_az_98:=a1.le
 have htl3:=til_len (s:=q.v) (w:=a0.w) (h:=a0.h) (tw:=tw) (th:=th) (r:=r)
 refine nilO ⟨⟨dI,dI,dI,dI,dI,dI,dI,dI,dI,dI,dI,dI,dI,dI,dI,dI,dI,dI,dI,dI,dI,dI,dI,dI,cI m1 1,trivial⟩,?_⟩
 refine wO rfl ?_
 have i3:=(m1.pick 2 rfl)
 have htl2:=til_len (s:=q.v) (w:=a0.w) (h:=a0.h) (tw:=tw) (th:=th) (r:=r)
 refine cX call58 (r20_insert hOzs (ms:=(tilesV q.v a0.w a0.h tw th r)) (RdT.flat (a1.rdAt 0 (by rfl))) a0.first (by rw [hE];exact asc_canon _) (fun x hx=>by have h:=mem_upto.1 (List.mem_filter.1 hx).1;have h2:=til_b a0.w a0.h tw th;omega) om om i3.flat1) ?_
 rintro _ _ ⟨j3,k3,l3,m3,rfl,b1,n3⟩
 have o3:=n3.unflat1;have hn_az_107:=b1.len;have hl_az_107:=b1.le
 refine nilO ⟨dA,?_⟩
 refine wU [13]<|wN<|bN<|bN<|tN<|rE<|pu1<|sAdd (i:Int) 1<|pu1<|nT ?_
 have hcw:L.cut b0=shpAt L.sh b0:=by unfold Lay.cut;rw [hst,if_neg (show ¬n0.v.kind=4 from r0)]
 have hdp:(L.srcDeps q.v r) b0=(tilesV q.v a0.w a0.h tw th r).map (a0.first+·):=by unfold Lay.srcDeps;rw [if_neg (show ¬b0<L.ni by rw [hLn];exact l0),if_neg (show ¬q.v.barrier=true from q0),if_neg (show ¬(L.st b0).kind=4 by rw [hst];exact r0),hf,<-hcw,hw,hh,hLt.1,hLt.2]
 exact ⟨(i+1,(insV a0.first (tilesV q.v a0.w a0.h tw th r) zs),j3,k3,l3,m3),od,alA,(o3.drops [1,1]),om,(by rw [take_flat (f:=(L.srcDeps q.v r)) f0,hdp,<-insV_canon,<-hE]),b1⟩
end Go.Proofs.YtdingplbadblpaaGreat
