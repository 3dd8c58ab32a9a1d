import Derived.Test.YtkadmghedmodbaaGreatR3P2Pf5
set_option linter.all false
namespace Go.Proofs.YtkadmghedmodbaaGreat
open Go Go.E Go.Proofs.Tryz
set_option linter.all false
set_option maxRecDepth 100000
set_option maxHeartbeats 2000000
variable {W w:World} {H:Chunk} {F:List Chunk}
def SortTo (zs:List Int) (i:Nat):Prop:=∀(p q:Nat) (u v:Int),p<q->q<i->zs[p]?=some u->zs[q]?=some v->u<=v
def InsI (ys:List Int) (i j:Nat):Prop:=∀(p q:Nat) (u v:Int),p<q->q<=i->q≠j->ys[p]?=some u->ys[q]?=some v->u<=v
theorem SortTo.one (zs:List Int) {i:Nat} (h:i<=1):SortTo zs i:=fun p q u v h1 h2=>by omega
theorem SortTo.ins {zs:List Int} {i:Nat} (h:SortTo zs i):InsI zs i i:=fun p q u v h1 h2 h3=>h p q u v h1 (by omega)
theorem InsI.zero {ys:List Int} {i j:Nat} (h:InsI ys i j) (hj:j=0):SortTo ys (i+1):=fun p q u v h1 h2=>h p q u v h1 (by omega) (by omega)
theorem InsI.done {ys:List Int} {i j:Nat} {a b:Int} (h:InsI ys i j) (hj:0<j) (ha:ys[j-1]?=some a) (hb:ys[j]?=some b) (hab:a<=b):SortTo ys (i+1):=by
  intro p q u v h1 h2 hu hv
  by_cases e:q=j
  · subst e
    rw [hb] at hv;obtain rfl:=Option.some.inj hv
    by_cases e2:p=q-1
    · subst e2;rw [ha] at hu;obtain rfl:=Option.some.inj hu;exact hab
    · exact Int.le_trans (h p (q-1) u a (by omega) (by omega) (by omega) hu ha) hab
  · exact h p q u v h1 (by omega) e hu hv
theorem adj {ys:List Int} {j:Nat} {a b:Int} (hj:0<j) (ha:ys[j-1]?=some a) (hb:ys[j]?=some b):∃A B,ys=A++a::b::B/\A.length=j-1:=by
  obtain ⟨h1,e1⟩:=List.getElem?_eq_some_iff.1 ha
  obtain ⟨h2,e2⟩:=List.getElem?_eq_some_iff.1 hb
  refine ⟨ys.take (j-1),ys.drop (j+1),?_,by rw [List.length_take];omega⟩
  have d1:ys.drop (j-1)=a::ys.drop j:=by rw [List.drop_eq_getElem_cons h1,e1,show j-1+1=j by omega]
  have d2:ys.drop j=b::ys.drop (j+1):=by rw [List.drop_eq_getElem_cons h2,e2]
  rw [<-d2,<-d1,List.take_append_drop]
theorem swap_eq {A B:List Int} {a b:Int} {j:Nat} (hj:0<j) (hA:A.length=j-1):((A++a::b::B).set j a).set (j-1) b=A++b::a::B:=by
  rw [List.set_append_right _ _ (by omega),List.set_append_right _ _ (by omega),hA,Nat.sub_self,show j-(j-1)=1 by omega];rfl
theorem swap_perm {ys:List Int} {j:Nat} {a b:Int} (hj:0<j) (ha:ys[j-1]?=some a) (hb:ys[j]?=some b):((ys.set j a).set (j-1) b).Perm ys:=by
  obtain ⟨A,B,rfl,hA⟩:=adj hj ha hb
  rw [swap_eq hj hA]
  exact List.Perm.append_left A (List.Perm.swap a b B)
theorem InsI.swap {ys:List Int} {i j:Nat} {a b:Int} (h:InsI ys i j) (hj:0<j) (hji:j<=i) (ha:ys[j-1]?=some a) (hb:ys[j]?=some b) (hab:b<a):InsI ((ys.set j a).set (j-1) b) i (j-1):=by
 have b0:=(List.getElem?_eq_some_iff.1 hb).1
 intro p q u v h1 h2 h3 hu hv
 have a0:∀k w,((ys.set j a).set (j-1) b)[k]?=some w->(k=j-1/\w=b)\/(k=j/\w=a)\/(k≠j/\k≠j-1/\ys[k]?=some w):=by
  intro k w hw
  rw [List.getElem?_set,List.length_set] at hw
  by_cases e:j-1=k
  ·rw [if_pos e,if_pos om] at hw;exact .inl ⟨e.symm,(Option.some.inj hw).symm⟩
  ·rw [if_neg e,List.getElem?_set] at hw
   by_cases e2:j=k
   ·rw [if_pos e2,if_pos om] at hw;exact .inr (.inl ⟨e2.symm,(Option.some.inj hw).symm⟩)
   ·rw [if_neg e2] at hw;exact .inr (.inr ⟨fun z=>e2 z.symm,fun z=>e z.symm,hw⟩)
 rcases a0 q v hv with ⟨rfl,rfl⟩|⟨rfl,rfl⟩|⟨q1,q2,hq⟩
 ·exact absurd rfl h3
 ·rcases a0 p u hu with ⟨rfl,rfl⟩|⟨rfl,_⟩|⟨p1,p2,hp⟩
  ·omega
  ·omega
  ·exact h p (q-1) u v om om om hp ha
 ·rcases a0 p u hu with ⟨rfl,rfl⟩|⟨rfl,rfl⟩|⟨p1,p2,hp⟩
  ·exact h j q u v om h2 q1 hb hq
  ·exact h (p-1) q u v om h2 q1 ha hq
  ·exact h p q u v h1 h2 q1 hp hq
theorem asc_unique:∀{l m:List Int},l.Perm m->SortTo l l.length->SortTo m m.length->l=m
 |[],m,h,_,_=>by rw [List.nil_perm.1 h]
 |x::l,[],h,_,_=>by have:=h.length_eq;simp at this
 |x::l,y::m,h,hl,hm=>by
  have hx:x∈y::m:=h.subset List.mem_cons_self
  have hy:y∈x::l:=h.symm.subset List.mem_cons_self
  have e:x=y:=by
   have h1:y<=x:=by
    rcases List.mem_cons.1 hx with e|hx
    ·omega
    ·obtain ⟨k,hk⟩:=List.getElem?_of_mem hx
     exact hm 0 (k+1) y x om (by have:=(List.getElem?_eq_some_iff.1 hk).1;simp;omega) rfl (by simpa using hk)
   have h2:x<=y:=by
    rcases List.mem_cons.1 hy with e|hy
    ·omega
    ·obtain ⟨k,hk⟩:=List.getElem?_of_mem hy
     exact hl 0 (k+1) x y om (by have:=(List.getElem?_eq_some_iff.1 hk).1;simp;omega) rfl (by simpa using hk)
   omega
  subst e
  have tl:∀{z:Int} {n:List Int},SortTo (z::n) (z::n).length->SortTo n n.length:=fun h p q u v h1 h2 hu hv=>h (p+1) (q+1) u v om (by simp;omega) (by simpa using hu) (by simpa using hv)
  rw [asc_unique ((List.perm_cons x).1 h) (tl hl) (tl hm)]
theorem q_ins {a:Option Addr} {n k:Nat} {xs:List Int} {c:Chunk} {F:List Chunk} (hO:OwnT Go.E.encI 3 1 a n k xs c) (hS:Sat W w (c::F)):
  Calls prog 190 #[.slice a n k,I 0,I (n:Int)] w fun e w'=>∃(ys:List Int) (c':Chunk),e= .returned (.tuple #[])/\OwnT Go.E.encI 3 1 a n k ys c'/\ys.Perm xs/\SortTo ys ys.length/\Sat W w' (c'::F):=by
 have hn:=hO.ll
 refine callsK 49 func190 rfl<|jCC 8 rfl<|loopF [0,1,2] (γ:=Nat×(List Int)×Chunk) (fun ⟨i,zs,C⟩ R=>⟨[(6,I (i:Int))],C::R,n-i,(1<=i/\i<=max n 1)/\OwnT Go.E.encI 3 1 a n k zs C/\zs.Perm xs/\SortTo zs i⟩) (1,xs,c) ⟨hS,om,hO,(List.Perm.refl _),(SortTo.one _ (Nat.le_refl 1))⟩ ?_
 rintro ⟨i,zs,C⟩ ρ _ ⟨e0,hi,E0,G0,H0⟩
 refine jCC 8 rfl<|CD ((i:Int)<(n:Int)) (fun n0=>jCR 4 rfl<|ret0n rfl<|(by have K0:=E0.len;exact ⟨zs,C,rfl,E0,G0,(by by_cases h1:n<=1;exact SortTo.one _ om;rw [show zs.length=i by omega];exact H0),e0⟩)) fun n0=>jCC 11 rfl<|loopF [0,1,2,6] (γ:=Nat×Int×(List Int)×Chunk) (fun ⟨j,jj,ys,D⟩ R=>⟨[(7,I jj)],D::R,j,(j<=i/\jj=(j:Int))/\OwnT Go.E.encI 3 1 a n k ys D/\ys.Perm xs/\InsI ys i j⟩) (i,(i:Int),zs,C) ⟨e0,⟨Nat.le_refl i,rfl⟩,E0,G0,H0.ins⟩ ?_
 rintro ⟨j,jj,ys,D⟩ ρ _ ⟨f0,J0,A0,F0,D0⟩
 refine jCC 2 rfl<|bC ((jj:Int)>0) (fun g0=>drawF f0 [13] (fn) [0,1,2,3,4,5,6,8,9,10,11,7,12,13,14] fun _ o0=>wV 4<|wFix 19 _ false (decide_eq_false g0)<|wV 9<|wO rfl<|pu1<|nA<|wV 1<|wN<|jXO 10 rfl<|sAdd (i:Int) 1<|jOI 2 rfl<|⟨(i+1,ys,D),od,alB,o0,om,A0,F0,(D0.zero om)⟩) fun g0=>?_
 obtain ⟨b0,k1,l1,c0,p0,q0,m1⟩:=OwnT.elem A0 jj
 obtain ⟨a0,n1,o1,d0,r0,s0,q1⟩:=OwnT.elem A0 (jj-1)
 refine drawF f0 [13] (fq 7 0 (p0.up 0 rfl)<|fq 12 0 (r0.up 0 rfl)<|fn) [0,1,2,3,4,5,6,8,9,10,11,7,12,13,14] fun _ t0=>wV 4<|wFix 19 _ true (decide_eq_true g0)<|wV 2<|wI q0<|wV 2<|wSub jj 1<|wI s0<|wL 0<|wL 1<|wO rfl<|gY<|cS (s_less b0 a0 t0.flat) fun _ h0=>nA<|wV 1<|wN<|jXC 1 rfl<|CD (b0<a0) (fun u0=>jCO 8 rfl<|sAdd (i:Int) 1<|jOI 2 rfl<|(by have B0:ys[j-1]?=some a0:=(by rw [show j-1=(jj-1).toNat by omega];exact d0);have C0:ys[j]?=some b0:=(by rw [show j=jj.toNat by omega];exact c0);exact ⟨(i+1,ys,D),od,alB,h0,om,A0,F0,(D0.done om B0 C0 om)⟩)) fun u0=>jCC 4 rfl ?_
 obtain ⟨v0,s1,t1,i0,w0,j0,x0⟩:=OwnT.elem A0 (jj-1)
 obtain rfl:a0=v0:=Option.some.inj (d0.symm.trans i0)
 obtain ⟨y0,u1,v1,k0,z0,l0,a1⟩:=OwnT.elem A0 jj
 obtain rfl:b0=y0:=Option.some.inj (c0.symm.trans k0)
 refine drawF h0 [15,17] (fq 9 0 (w0.up 0 rfl)<|fq 13 0 (z0.up 0 rfl)<|fn) [0,1,2,3,4,5,6,7,8,10,11,12,9,13,14,15,16,17] fun _ b1=>wV 4<|wSub jj 1<|wV 2<|wSub jj 1<|wI j0<|wV 2<|wI l0<|wL 0<|wL 1<|wI l0<|wO rfl<|sStF b1 A0 a1 0 (jj).toNat 0 b0 a0 k0 (I a0) [I a0] sizeOf3 fun _ _ c1 d1=>nA<|wI j0<|wO rfl ?_
 have e1:(ys.set ((jj).toNat) a0)[((jj-1)).toNat]?=some a0:=by rw [List.getElem?_set,if_neg om];exact i0
 refine sStF d1 c1 x0 0 ((jj-1)).toNat 0 a0 b0 e1 (I b0) [I b0] sizeOf3 fun _ m0 f1 g1=>nA<|wN<|jXO 4 rfl<|sSub jj 1<|jOI 2 rfl ?_
 have B0:ys[j-1]?=some a0:=by rw [show j-1=(jj-1).toNat by omega];exact d0
 have C0:ys[j]?=some b0:=by rw [show j=jj.toNat by omega];exact c0
 have I0:OwnT Go.E.encI 3 1 a n k ((ys.set j a0).set (j-1) b0) m0:=by rw [show j-1=(jj-1).toNat by omega,show j=jj.toNat by omega];exact f1
 exact ⟨((j-1),(jj-1),((ys.set j a0).set (j-1) b0),m0),od,alB,g1,⟨om,om⟩,I0,((swap_perm om B0 C0).trans F0),(D0.swap om J0.1 B0 C0 om)⟩
theorem q_pdq {a:Option Addr} {n k:Nat} {xs:List Int} {c:Chunk} {F:List Chunk} (hO:OwnT Go.E.encI 3 1 a n k xs c) (m:Int) (h12:n<=12) (hS:Sat W w (c::F)):
  Calls prog 180 #[.slice a n k,I 0,I (n:Int),I m] w fun e w'=>∃(ys:List Int) (c':Chunk),e= .returned (.tuple #[])/\OwnT Go.E.encI 3 1 a n k ys c'/\ys.Perm xs/\SortTo ys ys.length/\Sat W w' (c'::F):=by
 have hn:=hO.ll
 refine callsK 134 func180 rfl<|jCC 11 rfl<|loopM 1<|roundK<|jCO 5 rfl<|sSub (n:Int) 0<|jOC 10 rfl ?_
 have a0:(((n:Int)-0):Int)<=12:=by omega
 refine cT _ (decide_eq_true a0)<|jCO 5 rfl<|cZ (q_ins hO hS) ?_
 rintro _ _ ⟨_,_,rfl,b0,c0,d0,e0⟩
 exact jOR 7 rfl<|ret0 rfl<|⟨_,_,rfl,b0,c0,d0,e0⟩
theorem q_sort {a:Option Addr} {n k:Nat} {xs:List Int} {c:Chunk} {F:List Chunk} (hO:OwnT Go.E.encI 3 1 a n k xs c) (h12:n<=12) (hS:Sat W w (c::F)):
  Calls prog 142 #[.slice a n k] w fun e w'=>∃(ys:List Int) (c':Chunk),e= .returned (.tuple #[])/\OwnT Go.E.encI 3 1 a n k ys c'/\ys.Perm xs/\SortTo ys ys.length/\Sat W w' (c'::F):=by
 have hn:=hO.ll
 refine callsK 11 func142 rfl<|jCO 11 rfl<|stepY (.int .u64 ((n:Int)%18446744073709551616)) rfl rfl (Y_conv (k:= .i64) (a:=(n:Int)) underlying3 underlying215 (wrap_u64 _) rfl kr)<|cZ (s_len ((n:Int)%18446744073709551616) om hS) ?_
 rintro _ _ ⟨a0,rfl,_,b0⟩
 refine cZ (q_pdq hO a0 om b0) ?_
 rintro _ _ ⟨_,_,rfl,c0,d0,e0,f0⟩
 exact nilO<|ret0n rfl<|⟨_,_,rfl,c0,d0,e0,f0⟩
def stateF (F:FS) (x t:Int):Int:=if 0<=x/\x<64/\(jobAt F x).added=true then stAt (jobAt F x).B.st t else 0
def tasksF (F:FS) (x:Int):List TaskV:=if 0<=x/\x<64/\(jobAt F x).added=true then (jobAt F x).tasks else []
def dequeF (F:FS) (x:Int):List Ref:=if 0<=x/\x<((F.ws.length:Nat):Int) then (dqAt F x).l else []
def bandQ (q:QS) (b:Int):List Ref:=if 0<=b/\b<4 then q.bs.getD b.toNat [] else []
def sumD (l:List DS):Int:=(l.map fun d=>((d.l.length:Nat):Int)).sum
def holdsB (v:Wkr):Bool:=decide (v.phase=1\/v.phase=2\/v.phase=3)
def heldN (l:List Wkr):Int:=(((l.filter holdsB).length:Nat):Int)
def statsF (F:FS):Stt:={F.st with queued:=totB F.q.bs+sumD F.dq,held:=F.st.held+heldN F.ws}
theorem sumD_take {l:List DS} {i:Nat} {d:DS} (h:l[i]?=some d):sumD (l.take (i+1))=sumD (l.take i)+(d.l.length:Int):=by
  unfold sumD;rw [take_succ_at h,List.map_append,List.sum_append];simp
theorem heldN_take {l:List Wkr} {i:Nat} {v:Wkr} (h:l[i]?=some v):heldN (l.take (i+1))=heldN (l.take i)+if holdsB v=true then 1 else 0:=by
  unfold heldN;rw [take_succ_at h,List.filter_append,List.length_append,List.filter_cons]
  cases holdsB v<;>simp
theorem wkr_eq {v:Wkr} {a b c d e u h:Int} (h0:a=v.phase) (h1:b=v.heldJob) (h2:c=v.heldTask) (h3:d=v.attempt) (h4:e=v.row) (h5:u=v.used) (h6:h=v.high):(⟨a,b,c,d,e,u,h⟩:Wkr)=v:=by
  cases v;simp only at*;subst h0;subst h1;subst h2;subst h3;subst h4;subst h5;subst h6;rfl
theorem DqP.bd {p:Nat} {S:DS} {M:Chunk} (h:DqP p S M):S.l.length<=256:=by
  obtain ⟨_,_,_,_,_,_,_,_,_,_,hW⟩:=h
  have:=hW.c;have:=hW.n;omega
theorem asc_allK (n:Nat):SortTo (allK n) (allK n).length:=by
  intro p q u v h1 h2 hu hv
  have at':∀k w,(allK n)[k]?=some w->w=((k:Nat):Int):=by
    intro k w hw
    unfold allK at hw
    rw [List.getElem?_map] at hw
    cases hr:(List.range n)[k]? with
    |none=>rw [hr] at hw;cases hw
    |some y=>
      rw [hr] at hw
      obtain ⟨h3,h4⟩:=List.getElem?_eq_some_iff.1 hr
      rw [List.getElem_range] at h4
      rw [<-Option.some.inj hw,<-h4]
  rw [at' p u hu,at' q v hv];omega
theorem sort_pw {l:List Int}:SortTo l l.length↔l.Pairwise (·<=·):=by
  rw [List.pairwise_iff_getElem]
  constructor
  · intro h i j hi hj a0
    exact h i j _ _ a0 hj (List.getElem?_eq_getElem hi) (List.getElem?_eq_getElem hj)
  · exact (by intro h p q u v h1 h2 hu hv;obtain ⟨a,rfl⟩:=List.getElem?_eq_some_iff.1 hu;obtain ⟨b,rfl⟩:=List.getElem?_eq_some_iff.1 hv;exact h p q a b h1)
theorem runK_asc (jobs:List JS):SortTo (runK jobs) (runK jobs).length:=by
  rw [sort_pw]
  exact (sort_pw.1 (asc_allK 64)).filter _
theorem state_no {F:FS} {x t:Int} (h:¬(0<=x/\x<64/\(F.jobs.getD x.toNat default).added=true)):stateF F x t=0:=by unfold stateF jobAt;rw [if_neg h]
theorem state_at {F:FS} {x t:Int} {j:JS} (hx:0<=x/\x<64) (hj:F.jobs[x.toNat]?=some j) (ha:j.added=true):stateF F x t=stAt j.B.st t:=by
  unfold stateF jobAt;rw [getD_some hj,if_pos ⟨hx.1,hx.2,ha⟩]
theorem tasks_no {F:FS} {x:Int} (h:¬(0<=x/\x<64/\(F.jobs.getD x.toNat default).added=true)):tasksF F x=[]:=by unfold tasksF jobAt;rw [if_neg h]
theorem tasks_at {F:FS} {x:Int} {j:JS} (hx:0<=x/\x<64) (hj:F.jobs[x.toNat]?=some j) (ha:j.added=true):tasksF F x=j.tasks:=by
  unfold tasksF jobAt;rw [getD_some hj,if_pos ⟨hx.1,hx.2,ha⟩]
theorem pq_list0 {p:Nat} {S:QS} {M:Chunk} (hR:InjP p S M) (hS:Sat W w (M::H::F)):
  Calls prog 145 #[Pt p 0,I 0] w fun e w'=>∃(az:Option Addr) (nz kz:Nat) (Z:Chunk),e= .returned (.slice az nz kz)/\OwnT encRef 61 2 az nz kz (bandQ S 0) Z/\Sat W w' (Z::M::H::F):=by
 obtain ⟨a0,n0,k0,l0,c0,a1,n1,k1,l1,c1,a2,n2,k2,l2,c2,a3,n3,k3,l3,c3,rfl,j0,p0,q0,r0,hb,A0,B0⟩:=hR
 have hS:Sat W _ ([(p, .cells #[I S.cap, .slice a0 n0 k0, .slice a1 n1 k1, .slice a2 n2 k2, .slice a3 n3 k3] 158 (0,0))]::c0::c1::c2::c3::H::F):=Sat.perm hS (by simp)
 have ht:totB S.bs=n0+n1+n2+n3:=by rw [hb];unfold totB;simp [j0.len,p0.len,q0.len,r0.len];omega
 have w0:=j0.ll;have x0:=p0.ll;have y0:=q0.ll;have z0:=r0.ll
 refine callsK 22 func145 rfl<|gCO hS 31 [0] rfl<|cZ (cl_ref a0 n0 k0 l0 (RdT.flat (j0.rdAt 1 (by rfl))) om hS.flat) ?_
 rintro _ _ ⟨d0,e0,f0,_,rfl,b0,g0⟩
 have h0:=g0.unflat1;have o0:=b0.ll
 exact jOR 4 rfl<|retT [.slice d0 e0 f0]<|(by have i0:=(h0.picks [5,5,5,5,5]);exact ⟨_,_,_,_,rfl,by unfold bandQ;rw [if_pos (by decide),hb];exact b0,((i0.merge5).pick 1 rfl)⟩)
theorem pq_list1 {p:Nat} {S:QS} {M:Chunk} (hR:InjP p S M) (hS:Sat W w (M::H::F)):
  Calls prog 145 #[Pt p 0,I 1] w fun e w'=>∃(az:Option Addr) (nz kz:Nat) (Z:Chunk),e= .returned (.slice az nz kz)/\OwnT encRef 61 2 az nz kz (bandQ S 1) Z/\Sat W w' (Z::M::H::F):=by
 obtain ⟨a0,n0,k0,l0,c0,a1,n1,k1,l1,c1,a2,n2,k2,l2,c2,a3,n3,k3,l3,c3,rfl,p0,j0,q0,r0,hb,A0,B0⟩:=hR
 have hS:Sat W _ ([(p, .cells #[I S.cap, .slice a0 n0 k0, .slice a1 n1 k1, .slice a2 n2 k2, .slice a3 n3 k3] 158 (0,0))]::c0::c1::c2::c3::H::F):=Sat.perm hS (by simp)
 have ht:totB S.bs=n0+n1+n2+n3:=by rw [hb];unfold totB;simp [p0.len,j0.len,q0.len,r0.len];omega
 have w0:=p0.ll;have x0:=j0.ll;have y0:=q0.ll;have z0:=r0.ll
 refine callsK 22 func145 rfl<|gCO hS 31 [0] rfl<|cZ (cl_ref a1 n1 k1 l1 (RdT.flat (j0.rdAt 2 (by rfl))) om hS.flat) ?_
 rintro _ _ ⟨d0,e0,f0,_,rfl,b0,g0⟩
 have h0:=g0.unflat1;have o0:=b0.ll
 exact jOR 4 rfl<|retT [.slice d0 e0 f0]<|(by have i0:=(h0.picks [5,5,5,5,5]);exact ⟨_,_,_,_,rfl,by unfold bandQ;rw [if_pos (by decide),hb];exact b0,((i0.merge5).pick 1 rfl)⟩)
theorem pq_list2 {p:Nat} {S:QS} {M:Chunk} (hR:InjP p S M) (hS:Sat W w (M::H::F)):
  Calls prog 145 #[Pt p 0,I 2] w fun e w'=>∃(az:Option Addr) (nz kz:Nat) (Z:Chunk),e= .returned (.slice az nz kz)/\OwnT encRef 61 2 az nz kz (bandQ S 2) Z/\Sat W w' (Z::M::H::F):=by
 obtain ⟨a0,n0,k0,l0,c0,a1,n1,k1,l1,c1,a2,n2,k2,l2,c2,a3,n3,k3,l3,c3,rfl,p0,q0,j0,r0,hb,A0,B0⟩:=hR
 have hS:Sat W _ ([(p, .cells #[I S.cap, .slice a0 n0 k0, .slice a1 n1 k1, .slice a2 n2 k2, .slice a3 n3 k3] 158 (0,0))]::c0::c1::c2::c3::H::F):=Sat.perm hS (by simp)
 have ht:totB S.bs=n0+n1+n2+n3:=by rw [hb];unfold totB;simp [p0.len,q0.len,j0.len,r0.len];omega
 have w0:=p0.ll;have x0:=q0.ll;have y0:=j0.ll;have z0:=r0.ll
 refine callsK 22 func145 rfl<|gCO hS 31 [0] rfl<|cZ (cl_ref a2 n2 k2 l2 (RdT.flat (j0.rdAt 3 (by rfl))) om hS.flat) ?_
 rintro _ _ ⟨d0,e0,f0,_,rfl,b0,g0⟩
 have h0:=g0.unflat1;have o0:=b0.ll
 exact jOR 4 rfl<|retT [.slice d0 e0 f0]<|(by have i0:=(h0.picks [5,5,5,5,5]);exact ⟨_,_,_,_,rfl,by unfold bandQ;rw [if_pos (by decide),hb];exact b0,((i0.merge5).pick 1 rfl)⟩)
theorem pq_list3 {p:Nat} {S:QS} {M:Chunk} (hR:InjP p S M) (hS:Sat W w (M::H::F)):
  Calls prog 145 #[Pt p 0,I 3] w fun e w'=>∃(az:Option Addr) (nz kz:Nat) (Z:Chunk),e= .returned (.slice az nz kz)/\OwnT encRef 61 2 az nz kz (bandQ S 3) Z/\Sat W w' (Z::M::H::F):=by
 obtain ⟨a0,n0,k0,l0,c0,a1,n1,k1,l1,c1,a2,n2,k2,l2,c2,a3,n3,k3,l3,c3,rfl,p0,q0,r0,j0,hb,A0,B0⟩:=hR
 have hS:Sat W _ ([(p, .cells #[I S.cap, .slice a0 n0 k0, .slice a1 n1 k1, .slice a2 n2 k2, .slice a3 n3 k3] 158 (0,0))]::c0::c1::c2::c3::H::F):=Sat.perm hS (by simp)
 have ht:totB S.bs=n0+n1+n2+n3:=by rw [hb];unfold totB;simp [p0.len,q0.len,r0.len,j0.len];omega
 have w0:=p0.ll;have x0:=q0.ll;have y0:=r0.ll;have z0:=j0.ll
 refine callsK 22 func145 rfl<|gCO hS 31 [0] rfl<|cZ (cl_ref a3 n3 k3 l3 (RdT.flat (j0.rdAt 4 (by rfl))) om hS.flat) ?_
 rintro _ _ ⟨d0,e0,f0,_,rfl,b0,g0⟩
 have h0:=g0.unflat1;have o0:=b0.ll
 exact jOR 4 rfl<|retT [.slice d0 e0 f0]<|(by have i0:=(h0.picks [5,5,5,5,5]);exact ⟨_,_,_,_,rfl,by unfold bandQ;rw [if_pos (by decide),hb];exact b0,((i0.merge5).pick 1 rfl)⟩)
theorem pq_listx {p:Nat} {S:QS} {M:Chunk} (b:Int) (hb:¬(0<=b/\b<4)) (hS:Sat W w (M::H::F)):
  Calls prog 145 #[Pt p 0,I b] w fun e w'=>∃(az:Option Addr) (nz kz:Nat) (Z:Chunk),e= .returned (.slice az nz kz)/\OwnT encRef 61 2 az nz kz (bandQ S b) Z/\Sat W w' (Z::M::H::F):=by
 exact callsK 22 func145 rfl<|jCO 15 rfl<|sD 11 (b<0) (fun a0=>jOR 13 rfl<|retT [nS]<|⟨_,_,_,_,rfl,by unfold bandQ;rw [if_neg hb];exact OwnT.nil fR,(Sat.nilc hS)⟩) fun a0=>jOC 5 rfl<|(by have c0:(b:Int)>=4:=om;exact cT _ (decide_eq_true c0)<|jCR 7 rfl<|retT [nS]<|⟨_,_,_,_,rfl,by unfold bandQ;rw [if_neg hb];exact OwnT.nil fR,(Sat.nilc hS)⟩)
theorem pq_list {W w:World} {p:Nat} {S:QS} {M H:Chunk} {F:List Chunk} (hR:InjP p S M) (b:Int) (hS:Sat W w (M::H::F)):
    Calls prog 145 #[.pointer (some ⟨p,0,none⟩), .int .i64 b] w fun e w'=>∃(az:Option Addr) (nz kz:Nat) (Z:Chunk),e= .returned (.slice az nz kz)/\OwnT encRef 61 2 az nz kz (bandQ S b) Z/\Sat W w' (Z::M::H::F):=by
  by_cases hb:0<=b/\b<4
  · rcases (by omega:b=0\/b=1\/b=2\/b=3) with rfl|rfl|rfl|rfl
    · exact pq_list0 hR hS
    · exact pq_list1 hR hS
    · exact pq_list2 hR hS
    · exact pq_list3 hR hS
  · exact pq_listx b hb hS
theorem pf_deque {p:Nat} {F:FS} {M:Chunk} {F0:List Chunk} (hR:FarmP p F M) {K:Int} (hF:FI F K) (x:Int) (hS:Sat W w (M::H::F0)):
  Calls prog 92 #[Pt p 0,I x] w fun e w'=>∃(az:Option Addr) (nz kz:Nat) (Z:Chunk),e= .returned (.slice az nz kz)/\OwnT encRef 61 2 az nz kz (dequeF F x) Z/\Sat W w' (Z::M::H::F0):=by
 obtain ⟨wb,wo,wn,wk,q,m,xs,jm,Wc,Qc,Jc,G0,H0,K0,rfl,A0,D0,I0,B0,hQ,hM,J0⟩:=hR
 have g0:Sat W _ ((Tri p 83 (preP F.cfg wb wo wn wk q m) (([]:List Ref).flatMap encRef) (encStt F.st))::Wc::G0.flatten::H0.flatten::Qc::Jc::K0.flatten::H::F0):=Sat.perm hS (by simp)
 have d1:=A0.ll;have Q0:=core_len D0;have C0:=I0.1;have E0:=B0.1;rw [List.length_map] at C0 E0;have N0:=J0.l
 have S0:=hF.st.a;have T0:=hF.st.b;have U0:=hF.st.c;have V0:=hF.st.d;have W0:=hF.st.e;have X0:=hF.st.f;have Y0:=hF.st.g;have P0:=hF.fw.k;have R0:=hF.fw.n;have L0:=hF.fw.al;have M0:=hF.fw.dl;have O0:=hF.fw.jl
 refine callsK 18 func92 rfl<|jCO 10 rfl ?_
 have h0:=(g0.merge7)
 have i0:FarmP p F ((Tri p 83 (preP F.cfg wb wo wn wk q m) (([]:List Ref).flatMap encRef) (encStt F.st))++(Wc++(G0.flatten++(H0.flatten++(Qc++(Jc++K0.flatten)))))):=⟨_,_,_,_,_,_,_,_,_,_,_,_,_,_,rfl,A0,D0,I0,B0,hQ,hM,J0⟩
 refine cZ (pf_worker i0 x h0.flat1) ?_
 rintro _ _ ⟨rfl,j0⟩
 have k0:=j0.unflat1
 have a0:=k0.split7
 refine jOC 3 rfl<|CDn (0<=x/\x<(F.ws.length:Int)) (fun b0=>jCR 7 rfl<|retT [nS]<|(by have l0:=Sat.nilc a0;have m0:=(l0.picks [7,7,7,7,7,7,7]);exact ⟨_,_,_,_,rfl,(by unfold dequeF;rw [if_neg b0];exact (OwnT.nil (enc:=encRef) (E:=61) (sz:=2) fR)),((m0.merge7).pick 1 rfl)⟩)) fun b0=>jCO 7 rfl<|sMp a0 (ptr_up 0 rfl tri_pre) 8 (.slice (some ⟨wb,wo,none⟩) wn wk)<|pu1<|sIO A0 x (x).toNat fun o0 _ _ e0 p0 q0=>?_
 obtain ⟨rfl,rfl⟩:=some_addr q0
 obtain ⟨h1,i1,j1,k1,l1,m1,n1⟩:=core_at D0 e0
 refine pu1<|sMp a0 (p0.up 1 rfl) 6 (.pointer (some ⟨o0.d,0,none⟩)) ?_
 obtain ⟨o1,r0,s0,c0,t0⟩:=Obs.get B0 (map_at' e0)
 have u0:=(a0.pick 3 rfl)
 refine cZ (pd_list t0 (Sat.flat1 (Sat.openN (A:=[]) x.toNat c0 u0))) ?_
 rintro _ _ ⟨w0,x0,y0,_,rfl,d0,z0⟩
 have a1:=z0.unflat2;have v0:=d0.ll
 have b1:=(a1.picks [2,2])
 have f0:=Sat.shutN (d:=r0) (A:=[]) x.toNat c0 b1
 rw [set_same c0] at f0
 exact jOR 4 rfl<|retT [.slice w0 x0 y0]<|(by have c1:=(f0.picks [7,7,7,3,7,7,7]);exact ⟨_,_,_,_,rfl,(by unfold dequeF dqAt;rw [if_pos b0,getD_some s0];exact d0),((c1.merge7).pick 1 rfl)⟩)
theorem pf_queue {p:Nat} {F:FS} {M:Chunk} {F0:List Chunk} (hR:FarmP p F M) {K:Int} (hF:FI F K) (b:Int) (hS:Sat W w (M::H::F0)):
  Calls prog 94 #[Pt p 0,I b] w fun e w'=>∃(az:Option Addr) (nz kz:Nat) (Z:Chunk),e= .returned (.slice az nz kz)/\OwnT encRef 61 2 az nz kz (bandQ F.q b) Z/\Sat W w' (Z::M::H::F0):=by
 obtain ⟨wb,wo,wn,wk,q,m,xs,jm,Wc,Qc,Jc,p0,q0,z0,rfl,o0,v0,r0,s0,hQ,hM,t0⟩:=hR
 have c0:Sat W _ ((Tri p 83 (preP F.cfg wb wo wn wk q m) (([]:List Ref).flatMap encRef) (encStt F.st))::Wc::p0.flatten::q0.flatten::Qc::Jc::z0.flatten::H::F0):=Sat.perm hS (by simp)
 have M0:=o0.ll;have B0:=core_len v0;have m0:=r0.1;have n0:=s0.1;rw [List.length_map] at m0 n0;have x0:=t0.l
 have D0:=hF.st.a;have E0:=hF.st.b;have G0:=hF.st.c;have H0:=hF.st.d;have I0:=hF.st.e;have J0:=hF.st.f;have K0:=hF.st.g;have A0:=hF.fw.k;have C0:=hF.fw.n;have u0:=hF.fw.al;have w0:=hF.fw.dl;have y0:=hF.fw.jl
 refine callsK 13 func94 rfl<|jCO 9 rfl<|cZ (p_empty ⟨om,om⟩ c0) ?_
 rintro _ _ ⟨rfl,b0⟩
 refine jOO 10 rfl<|sMp b0 (ptr_up 0 rfl tri_pre) 9 (Pt q 0)<|pu1 ?_
 have d0:=(b0.pick 4 rfl)
 refine cZ (pq_list hQ b d0.flat1) ?_
 rintro _ _ ⟨e0,f0,g0,_,rfl,a0,h0⟩
 have i0:=h0.unflat2;have l0:=a0.ll
 exact jOR 4 rfl<|retT [.slice e0 f0 g0]<|(by have j0:=(i0.picks [7,7,3,7,7,7,7]);exact ⟨_,_,_,_,rfl,(by skip;exact a0),((j0.merge7).pick 1 rfl)⟩)
theorem pf_state_0 {p:Nat} {F:FS} {M:Chunk} {F0:List Chunk} (hR:FarmP p F M) {K:Int} (hF:FI F K) (x:Int) (t:Int) (hk:¬(0<=x/\x<64/\(F.jobs.getD x.toNat default).added=true)) (hS:Sat W w (M::H::F0)):
  Calls prog 96 #[Pt p 0,I x,I t] w fun e w'=>e= .returned (I (stateF F x t))/\Sat W w' (M::H::F0):=by
 obtain ⟨wb,wo,wn,wk,q,m,xs,jm,Wc,Qc,Jc,g0,h0,p0,rfl,f0,l0,i0,j0,hQ,hM,e0⟩:=hR
 have b0:Sat W _ ((Tri p 83 (preP F.cfg wb wo wn wk q m) (([]:List Ref).flatMap encRef) (encStt F.st))::Wc::g0.flatten::h0.flatten::Qc::Jc::p0.flatten::H::F0):=Sat.perm hS (by simp)
 have B0:=f0.ll;have r0:=core_len l0;have c0:=i0.1;have d0:=j0.1;rw [List.length_map] at c0 d0;have n0:=e0.l
 have t0:=hF.st.a;have u0:=hF.st.b;have v0:=hF.st.c;have w0:=hF.st.d;have x0:=hF.st.e;have y0:=hF.st.f;have z0:=hF.st.g;have q0:=hF.fw.k;have s0:=hF.fw.n;have k0:=hF.fw.al;have m0:=hF.fw.dl;have o0:=hF.fw.jl
 have hg:=JobsP.no e0 hk
 refine callsK 29 func96 rfl<|jCO 9 rfl<|cZ (p_empty ⟨om,om⟩ b0) ?_
 rintro _ _ ⟨rfl,a0⟩
 exact pu4<|gY<|sMp a0 (ptr_up 0 rfl tri_pre) 10 (.map (some m))<|pu1<|gY<|stepY (.pointer none) rfl rfl (Y_iget (k:=x) a0 5 hM (by rw [hg];rfl) runUnderlying80 runUnderlying3 zeroValue110)<|jOR 12 rfl<|retT [I 0]<|⟨congrArg (fun z=>Ending.returned (I z)) ((state_no hk).symm),(a0.merge7)⟩
theorem pf_state_1 {p:Nat} {F:FS} {M:Chunk} {F0:List Chunk} (hR:FarmP p F M) {K:Int} (hF:FI F K) {j:JS} (x:Int) (t:Int) (hx:0<=x/\x<64) (hj:F.jobs[x.toNat]?=some j) (ha:j.added=true) (hS:Sat W w (M::H::F0)):
  Calls prog 96 #[Pt p 0,I x,I t] w fun e w'=>e= .returned (I (stateF F x t))/\Sat W w' (M::H::F0):=by
 obtain ⟨wb,wo,wn,wk,q,m,xs,jm,Wc,Qc,Jc,I0,J0,T0,rfl,H0,O0,K0,M0,hQ,hM,G0⟩:=hR
 have h0:Sat W _ ((Tri p 83 (preP F.cfg wb wo wn wk q m) (([]:List Ref).flatMap encRef) (encStt F.st))::Wc::I0.flatten::J0.flatten::Qc::Jc::T0.flatten::H::F0):=Sat.perm hS (by simp)
 have o1:=H0.ll;have X0:=core_len O0;have D0:=K0.1;have E0:=M0.1;rw [List.length_map] at D0 E0;have Q0:=G0.l
 have b1:=hF.st.a;have h1:=hF.st.b;have i1:=hF.st.c;have j1:=hF.st.d;have k1:=hF.st.e;have l1:=hF.st.f;have m1:=hF.st.g;have U0:=hF.fw.k;have Z0:=hF.fw.n;have N0:=hF.fw.al;have P0:=hF.fw.dl;have R0:=hF.fw.jl
 have S0:=hF.fw.j j (List.mem_of_getElem? hj);obtain ⟨L0,Y0,V0,W0⟩:=S0.b ha
 obtain ⟨d0,b0,c1,d1,c0,i0,e0⟩:=JobsP.get G0 (k:=x) ⟨om,om⟩ hj ha
 obtain ⟨j0,k0,l0,e1,m0,n0,o0,rfl,f0,f1,p0,q0,_,g1⟩:=i0.open
 have r0:=(h0.pick 6 rfl)
 have s0:=Sat.openN (A:=[]) d0 c0 r0
 have t0:=s0.split3
 have C0:=f0.ll;have A0:=congrArg List.length p0;rw [List.length_map] at A0
 refine callsK 29 func96 rfl<|jCO 9 rfl ?_
 have u0:=(t0.pick 4 rfl)
 refine cZ (p_empty ⟨om,om⟩ u0) ?_
 rintro _ _ ⟨rfl,a0⟩
 refine pu4<|gY<|sMp a0 (ptr_up 0 rfl tri_pre) 10 (.map (some m))<|pu1<|gY<|stepY (Pt b0 0) rfl rfl (Y_iget (k:=x) a0 9 hM (by rw [e0];rfl) runUnderlying80 runUnderlying3 zeroValue110)<|jOO 12 rfl<|sMp a0 (ptr_up 0 rfl tri_pre) 10 (.map (some m))<|pu1<|stepY (Pt b0 0) rfl rfl (Y_iget (k:=x) a0 9 hM (by rw [e0];rfl) runUnderlying80 runUnderlying3 zeroValue110)<|gOO a0 4 [1] rfl ?_
 have v0:=(a0.pick 3 rfl)
 refine cZ (b_state q0 L0 t v0.flat1) ?_
 rintro _ _ ⟨rfl,w0⟩
 have x0:=w0.unflat1
 exact jOR 4 rfl<|retT [I (stAt j.B.st t)]<|(by have y0:=(x0.picks [4,1,4,4]);have z0:=y0.merge3;have g0:=Sat.shutN (d:=([(b0, .cells #[.slice j0 k0 l0,I j.band,Pt m0 0, .bool (canc j)] 117 (0,0))]++(n0++o0))) (A:=[]) d0 c0 z0;rw [set_same c0] at g0;have a1:=(g0.picks [6,6,6,6,6,6]);exact ⟨congrArg (fun z=>Ending.returned (I z)) ((state_at hx hj ha).symm),(a1.merge7)⟩)
theorem pf_state {W w:World} {p:Nat} {F:FS} {M H:Chunk} {F0:List Chunk} (hR:FarmP p F M) {K:Int} (hF:FI F K) (x t:Int) (hS:Sat W w (M::H::F0)):
    Calls prog 96 #[.pointer (some ⟨p,0,none⟩), .int .i64 x, .int .i64 t] w fun e w'=>e= .returned (.int .i64 (stateF F x t))/\Sat W w' (M::H::F0):=by
  by_cases hk:0<=x/\x<64/\(F.jobs.getD x.toNat default).added=true
  · exact (by obtain ⟨h1,h2,h3⟩:=hk;obtain ⟨j,hj⟩:=at_some hF.fw.jl (k:=x.toNat) (by omega);rw [getD_some hj] at h3;exact pf_state_1 hR hF x t ⟨h1,h2⟩ hj h3 hS)
  · exact pf_state_0 hR hF x t hk hS
theorem pf_tasks_0 {p:Nat} {F:FS} {M:Chunk} {F0:List Chunk} (hR:FarmP p F M) {K:Int} (hF:FI F K) (x:Int) (hk:¬(0<=x/\x<64/\(F.jobs.getD x.toNat default).added=true)) (hS:Sat W w (M::H::F0)):
  Calls prog 32 #[Pt p 0,I x] w fun e w'=>∃(az:Option Addr) (nz kz:Nat) (zs:List Task) (C G:Chunk),e= .returned (.slice az nz kz)/\OwnT encTask 51 9 az nz kz zs C/\(∀z∈zs,Task.Ok [G] z)/\zs.map Task.v=tasksF F x/\Sat W w' (C::G::M::H::F0):=by
 obtain ⟨wb,wo,wn,wk,q,m,xs,jm,Wc,Qc,Jc,g0,h0,p0,rfl,f0,l0,i0,j0,hQ,hM,e0⟩:=hR
 have b0:Sat W _ ((Tri p 83 (preP F.cfg wb wo wn wk q m) (([]:List Ref).flatMap encRef) (encStt F.st))::Wc::g0.flatten::h0.flatten::Qc::Jc::p0.flatten::H::F0):=Sat.perm hS (by simp)
 have B0:=f0.ll;have r0:=core_len l0;have c0:=i0.1;have d0:=j0.1;rw [List.length_map] at c0 d0;have n0:=e0.l
 have t0:=hF.st.a;have u0:=hF.st.b;have v0:=hF.st.c;have w0:=hF.st.d;have x0:=hF.st.e;have y0:=hF.st.f;have z0:=hF.st.g;have q0:=hF.fw.k;have s0:=hF.fw.n;have k0:=hF.fw.al;have m0:=hF.fw.dl;have o0:=hF.fw.jl
 have hg:=JobsP.no e0 hk
 refine callsK 26 func32 rfl<|jCO 9 rfl<|cZ (p_empty ⟨om,om⟩ b0) ?_
 rintro _ _ ⟨rfl,a0⟩
 exact pu4<|gY<|sMp a0 (ptr_up 0 rfl tri_pre) 10 (.map (some m))<|pu1<|gY<|stepY (.pointer none) rfl rfl (Y_iget (k:=x) a0 5 hM (by rw [hg];rfl) runUnderlying80 runUnderlying3 zeroValue110)<|jOR 12 rfl<|retT [nS]<|⟨_,_,_,[],_,_,rfl,OwnT.nil fR,(fun z hz=>by cases hz),(tasks_no hk).symm,(Sat.nilc (Sat.nilc (a0.merge7)))⟩
theorem pf_tasks_1 {p:Nat} {F:FS} {M:Chunk} {F0:List Chunk} (hR:FarmP p F M) {K:Int} (hF:FI F K) {j:JS} (x:Int) (hx:0<=x/\x<64) (hj:F.jobs[x.toNat]?=some j) (ha:j.added=true) (hS:Sat W w (M::H::F0)):
  Calls prog 32 #[Pt p 0,I x] w fun e w'=>∃(az:Option Addr) (nz kz:Nat) (zs:List Task) (C G:Chunk),e= .returned (.slice az nz kz)/\OwnT encTask 51 9 az nz kz zs C/\(∀z∈zs,Task.Ok [G] z)/\zs.map Task.v=tasksF F x/\Sat W w' (C::G::M::H::F0):=by
 obtain ⟨wb,wo,wn,wk,q,m,xs,jm,Wc,Qc,Jc,M0,N0,W0,rfl,K0,R0,O0,P0,hQ,hM,J0⟩:=hR
 have n0:Sat W _ ((Tri p 83 (preP F.cfg wb wo wn wk q m) (([]:List Ref).flatMap encRef) (encStt F.st))::Wc::M0.flatten::N0.flatten::Qc::Jc::W0.flatten::H::F0):=Sat.perm hS (by simp)
 have y1:=K0.ll;have m1:=core_len R0;have H0:=O0.1;have I0:=P0.1;rw [List.length_map] at H0 I0;have T0:=J0.l
 have q1:=hF.st.a;have r1:=hF.st.b;have s1:=hF.st.c;have t1:=hF.st.d;have u1:=hF.st.e;have v1:=hF.st.f;have w1:=hF.st.g;have Y0:=hF.fw.k;have o1:=hF.fw.n;have Q0:=hF.fw.al;have S0:=hF.fw.dl;have U0:=hF.fw.jl
 have L0:=hF.fw.j j (List.mem_of_getElem? hj);obtain ⟨X0,n1,Z0,h1⟩:=L0.b ha
 obtain ⟨g0,b0,i1,j1,c0,o0,h0⟩:=JobsP.get J0 (k:=x) ⟨om,om⟩ hj ha
 obtain ⟨i0,j0,k0,p0,q0,r0,s0,rfl,d0,t0,e0,k1,_,l1⟩:=o0.open
 have u0:=(n0.pick 6 rfl)
 have v0:=Sat.openN (A:=[]) g0 c0 u0
 have w0:=v0.split3
 have G0:=d0.ll;have A0:=congrArg List.length e0;rw [List.length_map] at A0
 have V0:=L0.n
 refine callsK 26 func32 rfl<|jCO 9 rfl ?_
 have x0:=(w0.pick 4 rfl)
 refine cZ (p_empty ⟨om,om⟩ x0) ?_
 rintro _ _ ⟨rfl,a0⟩
 refine pu4<|gY<|sMp a0 (ptr_up 0 rfl tri_pre) 10 (.map (some m))<|pu1<|gY<|stepY (Pt b0 0) rfl rfl (Y_iget (k:=x) a0 9 hM (by rw [h0];rfl) runUnderlying80 runUnderlying3 zeroValue110)<|jOO 12 rfl<|sMp a0 (ptr_up 0 rfl tri_pre) 10 (.map (some m))<|pu1<|stepY (Pt b0 0) rfl rfl (Y_iget (k:=x) a0 9 hM (by rw [h0];rfl) runUnderlying80 runUnderlying3 zeroValue110)<|gOO a0 3 [1] rfl<|cZ (p_copies i0 j0 k0 p0 (d0.fl 2) (fun z hz=>(t0 z hz).of_mem (mF 2)) om (fun z hz=>(hF.a.t j (List.mem_of_getElem? hj) z.v (by rw [<-e0];exact List.mem_map.2 ⟨z,hz,rfl⟩)).2.2.2.2) a0.flat) ?_
 rintro _ _ ⟨y0,z0,a1,_,_,_,rfl,f0,b1,l0,c1⟩
 have d1:=c1.unflat2;have E0:=f0.ll;have B0:=congrArg List.length l0;rw [List.length_map,List.length_map] at B0
 exact jOR 4 rfl<|retT [.slice y0 z0 a1]<|(by have e1:=(d1.picks [6,6,6,6]);have f1:=e1.merge3;have m0:=Sat.shutN (d:=([(b0, .cells #[.slice i0 j0 k0,I j.band,Pt q0 0, .bool (canc j)] 117 (0,0))]++(r0++s0))) (A:=[]) g0 c0 f1;rw [set_same c0] at m0;have g1:=(m0.picks [8,8,8,8,8,8]);exact ⟨_,_,_,_,_,_,rfl,f0,b1,l0.trans (e0.trans (tasks_at hx hj ha).symm),((g1.merge7).picks [2,2])⟩)
theorem pf_tasks {W w:World} {p:Nat} {F:FS} {M H:Chunk} {F0:List Chunk} (hR:FarmP p F M) {K:Int} (hF:FI F K) (x:Int) (hS:Sat W w (M::H::F0)):
  Calls prog 32 #[Pt p 0,I x] w fun e w'=>∃(az:Option Addr) (nz kz:Nat) (zs:List Task) (C G:Chunk),e= .returned (.slice az nz kz)/\OwnT encTask 51 9 az nz kz zs C/\(∀z∈zs,Task.Ok [G] z)/\zs.map Task.v=tasksF F x/\Sat W w' (C::G::M::H::F0):=by
 by_cases hk:0<=x/\x<64/\(F.jobs.getD x.toNat default).added=true
 · exact (by obtain ⟨h1,h2,h3⟩:=hk;obtain ⟨j,hj⟩:=at_some hF.fw.jl (k:=x.toNat) om;rw [getD_some hj] at h3;exact pf_tasks_1 hR hF x ⟨h1,h2⟩ hj h3 hS)
 ·exact pf_tasks_0 hR hF x hk hS
theorem pf_jobs {p:Nat} {F:FS} {M:Chunk} {F0:List Chunk} (hR:FarmP p F M) {K:Int} (hF:FI F K) (h12j:(runK F.jobs).length<=12) (hS:Sat W w (M::H::F0)):
  Calls prog 88 #[Pt p 0] w fun e w'=>∃(az:Option Addr) (nz kz:Nat) (Z:Chunk),e= .returned (.slice az nz kz)/\OwnT Go.E.encI 3 1 az nz kz (runK F.jobs) Z/\Sat W w' (Z::M::H::F0):=by
 obtain ⟨wb,wo,wn,wk,q,m,xs,jm,Wc,Qc,Jc,U0,V0,H1,rfl,T0,i1,W0,X0,hQ,hM,Q0⟩:=hR
 have c1:Sat W _ ((Tri p 83 (preP F.cfg wb wo wn wk q m) (([]:List Ref).flatMap encRef) (encStt F.st))::Wc::U0.flatten::V0.flatten::Qc::Jc::H1.flatten::H::F0):=Sat.perm hS (by simp)
 have T1:=T0.ll;have J1:=core_len i1;have R0:=W0.1;have S0:=X0.1;rw [List.length_map] at R0 S0;have A1:=Q0.l
 have L1:=hF.st.a;have M1:=hF.st.b;have N1:=hF.st.c;have O1:=hF.st.d;have P1:=hF.st.e;have Q1:=hF.st.f;have R1:=hF.st.g;have I1:=hF.fw.k;have K1:=hF.fw.n;have h1:=hF.fw.al;have r1:=hF.fw.dl;have B1:=hF.fw.jl
 refine callsK 27 func88 rfl<|jCO 9 rfl<|cZ (p_empty ⟨om,om⟩ c1) ?_
 rintro _ _ ⟨rfl,l0⟩
 refine jOO 16 rfl<|sMp l0 (ptr_up 0 rfl tri_pre) 10 (.map (some m))<|sRangeI l0 5 hM runUnderlying80 fun d1 e1 _ f1 g1=>jOC 3 rfl<|loopF [12] (γ:=(List (Int×Value))×(Option (Int×Value))×Chunk×(List Int)×SO) (fun ⟨rs,lt,ci,zs,I0,H0,M0,N0⟩ R=>⟨[(3, .slice I0 H0 M0)],N0::ci::R,rs.length,RngI d1 m (kvJ jm) rs lt Jc ci/\RestJ jm rs/\(OwnT Go.E.encI 3 1 I0 H0 M0 zs N0)/\((zs++keysR F.jobs rs).Perm (runK F.jobs))⟩) ((kvJ jm),none,e1,[],none,0,0,[]) ⟨(Sat.nilc g1),f1,(RestJ.all jm),(OwnT.nil (enc:=Go.E.encI) (E:=3) (sz:=1) fR),(keysR_all hF.fw Q0)⟩ ?_
 rintro ⟨rs,lt,ci,zs,I0,H0,M0,N0⟩ ρ _ ⟨m0,Z0,Y0,J0,K0⟩
 have C1:=sumJ_nn (jobs:=F.jobs) (rs:=rs)
 have D1:zs.length<=12:=by have h9:=K0.length_eq;rw [List.length_append] at h9;omega
 have G1:=J0.len
 refine jCO 2 rfl<|sNextI m0 7 1 Z0 (fun j1=>?_) (fun f0 v2 g0 n0 w2 c0 h0 o0=>?_)
 · exact jOC 11 rfl<|(by have D0:zs.Perm (runK F.jobs):=(by rw [j1] at K0;simpa [keysR] using K0);have F1:=D0.length_eq;have E1:=J0.len;refine jCO 2 rfl<|cZ (q_sort J0 om m0) ?_;rintro _ _ ⟨k1,_,rfl,l1,m1,n1,o1⟩;exact jOR 9 rfl<|retT [.slice I0 H0 M0]<|(by have q1:=((o1.picks [8,8,8,8,8,8,8]).dropAt 8 rfl);exact ⟨_,_,_,_,rfl,(by rw [<-show k1=runK F.jobs from asc_unique (m1.trans D0) n1 (runK_asc F.jobs)];exact l1),((q1.merge7).pick 1 rfl)⟩))
 obtain ⟨a0,d0,rfl,s1,p0⟩:=Y0.take c0
 refine jOO 10 rfl<|sEntryI (q:=(a0,ptrV d0)) o0 7 1 h0 ?_
 obtain ⟨i0,z2,b0,a3,e0,t1,j0,q0,O0,P0⟩:=JobsP.mem Q0 s1
 obtain ⟨r0,s0,t0,b3,u0,v0,w0,rfl,x0,u1,y0,v1,_,w1⟩:=t1.open
 have x1:=(o0.pick 8 rfl)
 have y1:=Sat.openN (A:=[]) i0 e0 x1
 have z1:=y1.split3
 have A0:=hF.fw.j b0 (List.mem_of_getElem? j0);obtain ⟨a2,b2,_,_⟩:=A0.b q0;have L0:=A0.n
 have G0:=x0.len;have C0:=congrArg List.length y0;rw [List.length_map] at C0
 refine jOO 9 rfl ?_
 have c2:=(z1.picks [2,2,2])
 refine cZ (p_running (s:=b0) (JobP.mk (s:=b0) x0 u1 y0 v1 q0 w1 rfl) a2 b2 c2.merge3) ?_
 rintro _ _ ⟨rfl,e2⟩
 have z0:=e2.split3
 refine jOC 2 rfl<|CB b0.running (fun k0=>jCI 2 rfl<|(by have f2:=(z0.picks [3,3,3,3]);have g2:=f2.merge3;have a1:=Sat.shutN (d:=([(d0, .cells #[.slice r0 s0 t0,I b0.band,Pt u0 0, .bool (canc b0)] 117 (0,0))]++(v0++w0))) (A:=[]) i0 e0 g2;rw [set_same e0] at a1;have E0:=keysR_take c0 K0;rw [show runJ9 F.jobs a0=false from (by unfold runJ9;rw [getD_some j0];exact Bool.eq_false_iff.2 k0)] at E0;simp only [if_true,Bool.false_eq_true,if_false,List.append_nil] at E0;have h2:=(a1.picks [8,8,8,8,8,8,8,8]);have B0:((f0++g0)).length<rs.length:=(by rw [c0];simp only [List.length_append,List.length_cons];omega);exact ⟨((f0++g0),(some (a0,ptrV d0)),n0,zs,I0,H0,M0,N0),by first|exact B0|(dsimp only;exact B0),alB,h2,h0,p0,J0,E0⟩)) fun k0=>jCO 3 rfl<|sBK z0 #[I a0] 3 fun _ _ i2=>sApp (nb:=8) i2 J0 5 (RdT.blk (enc:=Go.E.encI) (sz:=1) (xs:=[a0]) fR 1 0 rfl rfl rfl om) underlying22 (i:=Tryz.t3) kr fR fun j2 k2 l2 _ m2 n2=>jOI 3 rfl ?_
 have o2:=(n2.picks [4,4,4,4])
 have q2:=o2.merge3
 have b1:=Sat.shutN (d:=([(d0, .cells #[.slice r0 s0 t0,I b0.band,Pt u0 0, .bool (canc b0)] 117 (0,0))]++(v0++w0))) (A:=[]) i0 e0 q2
 rw [set_same e0] at b1
 have E0:=keysR_take c0 K0;rw [show runJ9 F.jobs a0=true from (by unfold runJ9;rw [getD_some j0];exact k0)] at E0
 simp only [if_true,Bool.false_eq_true,if_false,List.append_nil] at E0
 have r2:=((b1.picks [9,9,9,9,9,9,9,9]).dropAt 9 rfl)
 have B0:((f0++g0)).length<rs.length:=by rw [c0];simp only [List.length_append,List.length_cons];omega
 exact ⟨((f0++g0),(some (a0,ptrV d0)),n0,(zs++[a0]),j2,(H0+1),k2,l2),by first|exact B0|(dsimp only;exact B0),alB,r2,h0,p0,m2,E0⟩
end Go.Proofs.YtkadmghedmodbaaGreat

namespace Go.Proofs.YtkadmghedmodbaaGreat
open Go Go.E Go.Proofs.Tryz
set_option linter.all false
set_option maxRecDepth 100000
set_option maxHeartbeats 2000000
variable {W w:World} {H:Chunk} {F:List Chunk}
theorem r_has {p:Nat} {B:BS} {K:Int} {M:Chunk} (hB:RefR p B M) (hW:BWf B K) (i:Int) (hS:Sat W w (M::H::F)):
  Calls prog 171 #[Pt p 0,I i] w fun e w'=>e= .returned (.bool (decide (inB B i)))/\Sat W w' (M::H::F):=by
 refine callsK 20 func171 rfl<|jCC 6 rfl ?_
 have b0:=(hS.picks [1,1])
 obtain ⟨a,n,k,ts,sa,sn,sk,ta,tn,tk,c,G,cs,ct,rfl,hO,hD,f0,g0,h0⟩:=hB
 have a0:Sat W _ ([(p, .cells #[.slice a n k, .slice sa sn sk, .slice ta tn tk] 179 (0,0))]::c::G::cs::ct::H::F):=Sat.perm b0 (by simp)
 have m0:=hO.ll;have o0:=f0.ll;have p0:=g0.ll;have i0:=congrArg List.length h0;rw [List.length_map] at i0;have q0:=hW.ls;have r0:=hW.la;have s0:=hW.n0
 exact jCO 8 rfl<|SD 11 (i>=0) (fun c0=>jOR 12 rfl<|retT [.bool false]<|(by have d0:Sat W _ (([(p, .cells #[.slice a n k, .slice sa sn sk, .slice ta tn tk] 179 (0,0))]++(c++(G++(cs++ct))))::H::F):=Sat.perm a0 (by simp);exact ⟨rB (decide_eq_false (by unfold inB;omega)).symm,d0⟩)) fun c0=>gOR a0 12 [0] rfl<|retT [.bool (decide (i<(n:Int)))]<|(by have e0:Sat W _ (([(p, .cells #[.slice a n k, .slice sa sn sk, .slice ta tn tk] 179 (0,0))]++(c++(G++(cs++ct))))::H::F):=Sat.perm a0 (by simp);exact ⟨rB (decide_eq_decide.2 (by unfold inB;omega)),e0⟩)
theorem r_held {p:Nat} {B:BS} {K:Int} {M:Chunk} (hB:RefR p B M) (hW:BWf B K) (i:Int) (m:Int) (hS:Sat W w (M::H::F)):
  Calls prog 114 #[Pt p 0,I i,I m] w fun e w'=>e= .returned (I (heldC B i m))/\Sat W w' (M::H::F):=by
 refine callsK 30 func114 rfl<|jCO 10 rfl<|cZ (r_has hB hW i hS.flat1) ?_
 rintro _ _ ⟨rfl,f0⟩
 have e0:=f0.unflat1
 refine jOC 3 rfl<|CDn (inB B i) (fun b0=>jCR 7 rfl<|retT [I 16]<|⟨by unfold heldC;rw [if_neg b0];rfl,e0⟩) fun b0=>jCC 4 rfl ?_
 have g0:=(e0.picks [1,1])
 obtain ⟨a,n,k,ts,sa,sn,sk,ta,tn,tk,c,G,cs,ct,rfl,hO,hD,r0,s0,u0⟩:=hB
 have a0:Sat W _ ([(p, .cells #[.slice a n k, .slice sa sn sk, .slice ta tn tk] 179 (0,0))]::c::G::cs::ct::H::F):=Sat.perm g0 (by simp)
 have C0:=hO.ll;have D0:=r0.ll;have E0:=s0.ll;have x0:=congrArg List.length u0;rw [List.length_map] at x0;have F0:=hW.ls;have G0:=hW.la;have H0:=hW.n0
 have w0:0<=i/\i<(B.deps.length:Int):=b0;have t0:=stAt_nat B.st w0.1
 refine gCO a0 6 [0] rfl<|sIO r0 i (i).toNat fun c0 _ _ h0 i0 _=>?_
 have v0:B.st.getD i.toNat 0=c0:=by rw [List.getD_eq_getElem?_getD,h0];rfl
 refine sMp a0 (i0.up 3 rfl) 0 (I c0)<|pu2<|SN 19 c0 3 (fun j0=>jOR 20 rfl<|retT [I 20]<|(by have k0:Sat W _ (([(p, .cells #[.slice a n k, .slice sa sn sk, .slice ta tn tk] 179 (0,0))]++(c++(G++(cs++ct))))::H::F):=Sat.perm a0 (by simp);exact ⟨by unfold heldC;rw [if_pos b0,if_neg (by rw [t0];omega)];rfl,k0⟩)) fun j0=>gOO a0 5 [0] rfl<|gY<|sIO s0 i (i).toNat fun d0 _ _ l0 m0 _=>?_
 have z0:B.att.getD i.toNat 0=d0:=by rw [List.getD_eq_getElem?_getD,l0];rfl
 exact gY<|sMp a0 (m0.up 4 rfl) 0 (I d0)<|jOC 5 rfl<|CN d0 m (fun o0=>jCR 7 rfl<|retT [I 20]<|(by have p0:Sat W _ (([(p, .cells #[.slice a n k, .slice sa sn sk, .slice ta tn tk] 179 (0,0))]++(c++(G++(cs++ct))))::H::F):=Sat.perm a0 (by simp);exact ⟨by unfold heldC;rw [if_pos b0,if_neg (by rw [t0];omega)];rfl,p0⟩)) fun o0=>jCR 8 rfl<|retT [I 0]<|(by have q0:Sat W _ (([(p, .cells #[.slice a n k, .slice sa sn sk, .slice ta tn tk] 179 (0,0))]++(c++(G++(cs++ct))))::H::F):=Sat.perm a0 (by simp);exact ⟨by unfold heldC;rw [if_pos b0,if_pos (by rw [t0];omega)];rfl,q0⟩)
theorem st_out2 {B:BS} {K i:Int} (hW:BWf B K) (h:¬inB B i):stAt B.st i=0:=by
  have hl:=hW.ls
  unfold stAt
  split
  · rw [List.getD_eq_getElem?_getD,List.getElem?_eq_none (by unfold inB at h;omega)];rfl
  · rfl
theorem r_state {p:Nat} {B:BS} {K:Int} {M:Chunk} (hB:RefR p B M) (hW:BWf B K) (i:Int) (hS:Sat W w (M::H::F)):
  Calls prog 148 #[Pt p 0,I i] w fun e w'=>e= .returned (I (stAt B.st i))/\Sat W w' (M::H::F):=by
 refine callsK 16 func148 rfl<|jCO 10 rfl<|cZ (r_has hB hW i hS.flat1) ?_
 rintro _ _ ⟨rfl,e0⟩
 have d0:=e0.unflat1
 refine jOC 3 rfl<|CDn (inB B i) (fun a0=>jCR 7 rfl<|retT [I 0]<|⟨by rw [st_out2 hW a0];rfl,d0⟩) fun a0=>jCC 3 rfl ?_
 have f0:=(d0.picks [1,1])
 obtain ⟨a,n,k,ts,sa,sn,sk,ta,tn,tk,c,G,cs,ct,rfl,hO,hD,j0,k0,l0⟩:=hB
 have b0:Sat W _ ([(p, .cells #[.slice a n k, .slice sa sn sk, .slice ta tn tk] 179 (0,0))]::c::G::cs::ct::H::F):=Sat.perm f0 (by simp)
 have u0:=hO.ll;have v0:=j0.ll;have w0:=k0.ll;have p0:=congrArg List.length l0;rw [List.length_map] at p0;have x0:=hW.ls;have y0:=hW.la;have z0:=hW.n0
 have m0:0<=i/\i<(B.deps.length:Int):=a0;have s0:=stAt_nat B.st m0.1
 refine gCO b0 6 [0] rfl<|sIO j0 i (i).toNat fun c0 _ _ g0 h0 _=>?_
 have o0:B.st.getD i.toNat 0=c0:=by rw [List.getD_eq_getElem?_getD,g0];rfl
 exact sMp b0 (h0.up 3 rfl) 0 (I c0)<|jOR 4 rfl<|retT [I c0]<|(by have i0:Sat W _ (([(p, .cells #[.slice a n k, .slice sa sn sk, .slice ta tn tk] 179 (0,0))]++(c++(G++(cs++ct))))::H::F):=Sat.perm b0 (by simp);exact ⟨congrArg (fun z=>Ending.returned (I z)) (by rw [s0];omega),i0⟩)
theorem r_with {p:Nat} {B:BS} {K:Int} {M:Chunk} (hB:RefR p B M) (hW:BWf B K) (y:Int) (hS:Sat W w (M::H::F)):
  Calls prog 109 #[Pt p 0,I y] w fun e w'=>∃(az:Option Addr) (nz kz:Nat) (Z:Chunk),e= .returned (.slice az nz kz)/\RdT Go.E.encI 1 [Z] az nz kz (idxOf y 0 B.st)/\Sat W w' (Z::M::H::F):=by
 have d0:=(hS.picks [1,1])
 obtain ⟨a,n,k,ts,sa,sn,sk,ta,tn,tk,c,G,cs,ct,rfl,hO,hD,v0,w0,z0⟩:=hB
 have e0:Sat W _ ([(p, .cells #[.slice a n k, .slice sa sn sk, .slice ta tn tk] 179 (0,0))]::c::G::cs::ct::H::F):=Sat.perm d0 (by simp)
 have E0:=hO.ll;have F0:=v0.ll;have G0:=w0.ll;have A0:=congrArg List.length z0;rw [List.length_map] at A0;have H0:=hW.ls;have I0:=hW.la;have J0:=hW.n0
 refine callsK 34 func109 rfl<|jCC 17 rfl<|loopF [0,1] (γ:=Nat×(List Int)×SO) (fun ⟨i,zs,t0,s0,u0,g0⟩ R=>⟨[(6,I (i:Int)),(5, .slice t0 s0 u0)],g0::R,sn-i,i<=sn/\(zs=idxOf y 0 (B.st.take i))/\(zs.length<=i)/\OwnT Go.E.encI 3 1 t0 s0 u0 zs g0⟩) (0,[],none,0,0,[]) ⟨(Sat.nilc e0),om,rfl,by simp,(OwnT.nil (enc:=Go.E.encI) (E:=3) (sz:=1) fR)⟩ ?_
 rintro ⟨i,zs,t0,s0,u0,g0⟩ ρ _ ⟨a0,hi,hz,K0,f0⟩
 have x0:=f0.ll
 exact gCC a0 16 [1] rfl<|CD ((i:Int)<(sn:Int)) (fun h0=>jCR 12 rfl<|retT [.slice t0 s0 u0]<|(by have i0:Sat W _ (g0::([(p, .cells #[.slice a n k, .slice sa sn sk, .slice ta tn tk] 179 (0,0))]++(c++(G++(cs++ct))))::H::F):=Sat.perm a0 (by simp);have y0:=(f0.rdAt (cs:=[g0]) 0 rfl);rw [hz,List.take_of_length_le om] at y0;exact ⟨_,_,_,_,rfl,y0,i0⟩)) fun h0=>gCO a0 11 [1] rfl<|sIO v0 (i:Int) i fun b0 _ _ c0 j0 _=>sMp a0 (j0.up 4 rfl) 0 (I b0)<|jOC 4 rfl<|CE b0 y (fun k0=>jCO 5 rfl<|sAdd (i:Int) 1<|jOI 2 rfl<|⟨(i+1,zs,t0,s0,u0,g0),od,alB,a0,om,(idx_n hz om (by rw [getD_at c0];omega)),(by first|omega|(simp;omega)),f0⟩) fun k0=>jCO 3 rfl<|sBK a0 #[I (i:Int)] 3 fun _ _ l0=>sApp (nb:=8) l0 f0 1 (RdT.blk (enc:=Go.E.encI) (sz:=1) (xs:=[(i:Int)]) fR 1 0 rfl rfl rfl om) underlying22 (i:=Tryz.t3) kr fR fun m0 o0 p0 _ q0 r0=>jOO 6 rfl<|sAdd (i:Int) 1<|jOI 2 rfl<|⟨(i+1,(zs++[(i:Int)]),m0,(s0+1),o0,p0),od,alB,(r0.dropAt 0 rfl),om,(idx_y hz om (by rw [getD_at c0];omega)),(by first|omega|(simp;omega)),q0⟩
theorem r_ready {p:Nat} {B:BS} {K:Int} {M:Chunk} (hB:RefR p B M) (hW:BWf B K) (hS:Sat W w (M::H::F)):
    Calls prog 59 #[.pointer (some ⟨p,0,none⟩)] w fun e w'=>∃(az:Option Addr) (nz kz:Nat) (Z:Chunk),e= .returned (.slice az nz kz)/\RdT Go.E.encI 1 [Z] az nz kz (idxOf 2 0 B.st)/\Sat W w' (Z::M::H::F):=by
  refine callsK 5 func59 rfl<|jCO 8 rfl<|cZ (r_with hB hW 2 hS.flat1) ?_
  rintro _ i0 ⟨c0,g0,f0,h0,rfl,a0,d0⟩
  have e0:=d0.unflat2;have b0:=a0.len
  exact jOR 4 rfl<|retT [.slice c0 g0 f0]<|⟨_,_,_,_,rfl,a0,e0⟩
theorem r_done {p:Nat} {B:BS} {K:Int} {M:Chunk} (hB:RefR p B M) (hW:BWf B K) (hS:Sat W w (M::H::F)):
  Calls prog 135 #[Pt p 0] w fun e w'=>e= .returned (I (doneOf B))/\Sat W w' (M::H::F):=by
 refine callsK 6 func135 rfl<|jCO 8 rfl<|cZ (r_with hB hW 4 hS.flat1) ?_
 rintro _ _ ⟨_,a0,_,_,rfl,b0,c0⟩
 have d0:=c0.unflat2;have e0:=b0.len
 exact jOR 5 rfl<|retT [I (a0:Int)]<|⟨congrArg (fun z=>Ending.returned (I z)) (by unfold doneOf;rw [<-idx_len 0];omega),(d0.dropAt 0 rfl)⟩
theorem r_start {p:Nat} {B:BS} {K:Int} {M:Chunk} (hB:RefR p B M) (hW:BWf B K) (i:Int) (hS:Sat W w (M::H::F)):
  Calls prog 179 #[Pt p 0,I i] w fun e w'=>∃M':Chunk,e= .returned (.tuple #[I (startB B i).2.1,I (startB B i).2.2])/\RefR p ((startB B i).1) M'/\Sat W w' (M'::H::F):=by
 refine callsK 31 func179 rfl<|jCO 11 rfl<|cZ (r_has hB hW i hS.flat1) ?_
 rintro _ _ ⟨rfl,j0⟩
 have g0:=j0.unflat1
 refine jOC 3 rfl<|CDn (inB B i) (fun b0=>jCR 8 rfl<|retT [I 0,I 16]<|(by have he:startB B i=(B,0,16):=(by unfold startB;rw [if_neg b0]);exact ⟨_,by rw [he];rfl,by rw [he];exact hB,g0⟩)) fun b0=>jCC 4 rfl ?_
 have k0:=(g0.picks [1,1])
 obtain ⟨a,n,k,ts,sa,sn,sk,ta,tn,tk,c,G,cs,ct,rfl,hO,hD,v0,w0,x0⟩:=hB
 have c0:Sat W _ ([(p, .cells #[.slice a n k, .slice sa sn sk, .slice ta tn tk] 179 (0,0))]::c::G::cs::ct::H::F):=Sat.perm k0 (by simp)
 have F0:=hO.ll;have G0:=v0.ll;have H0:=w0.ll;have B0:=congrArg List.length x0;rw [List.length_map] at B0;have I0:=hW.ls;have J0:=hW.la;have K0:=hW.n0
 have A0:0<=i/\i<(B.deps.length:Int):=b0;have y0:=stAt_nat B.st A0.1
 refine gCO c0 6 [0] rfl<|sIO v0 i (i).toNat fun a0 _ _ h0 l0 _=>?_
 have z0:B.st.getD i.toNat 0=a0:=by rw [List.getD_eq_getElem?_getD,h0];rfl
 refine sMp c0 (l0.up 3 rfl) 0 (I a0)<|jOC 3 rfl<|CN a0 2 (fun m0=>jCR 8 rfl<|retT [I 0,I 20]<|(by have o0:Sat W _ (([(p, .cells #[.slice a n k, .slice sa sn sk, .slice ta tn tk] 179 (0,0))]++(c++(G++(cs++ct))))::H::F):=Sat.perm c0 (by simp);have he:startB B i=(B,0,20):=(by unfold startB;rw [if_pos b0,if_neg (by rw [y0];omega)]);exact ⟨_,by rw [he];rfl,by rw [he];exact ⟨_,_,_,ts,_,_,_,_,_,_,c,G,cs,ct,rfl,hO,hD,v0,w0,x0⟩,o0⟩)) fun m0=>gCO c0 9 [0] rfl<|sIO v0 i (i).toNat fun p0 _ _ d0 _ q0=>?_
 obtain rfl:a0=p0:=Option.some.inj (h0.symm.trans d0)
 have d1:B.st.getD i.toNat 0=a0:=by rw [List.getD_eq_getElem?_getD,d0];rfl
 refine sStF c0 v0 q0 3 (i).toNat 0 a0 3 d0 (I 3) [I 3] sizeOf3 fun _ i0 r0 e0=>gOO e0 9 [0] rfl<|sIO w0 i (i).toNat fun f0 _ _ s0 t0 _=>?_
 have i1:B.att.getD i.toNat 0=f0:=by rw [List.getD_eq_getElem?_getD,s0];rfl
 refine sMp e0 (t0.up 4 rfl) 0 (I f0)<|jOR 5 rfl<|retT [I f0,I 0] ?_
 have u0:Sat W _ (([(p, .cells #[.slice a n k, .slice sa sn sk, .slice ta tn tk] 179 (0,0))]++(c++(G++(i0++ct))))::H::F):=Sat.perm e0 (by simp)
 have he:startB B i=(⟨B.deps,B.st.set i.toNat 3,B.att⟩,B.att.getD i.toNat 0,0):=by unfold startB;rw [if_pos b0,if_pos (by rw [y0];omega)]
 exact ⟨_,by rw [he];exact congrArg (fun z=>Ending.returned (.tuple #[I z,I 0])) (by dsimp only;omega),by rw [he];exact ⟨_,_,_,ts,_,_,_,_,_,_,c,G,i0,ct,rfl,hO,hD,r0,w0,x0⟩,u0⟩
theorem r_return {p:Nat} {B:BS} {K:Int} {M:Chunk} (hB:RefR p B M) (hW:BWf B K) (i:Int) (m:Int) (hK:K<=4611686018427387904) (hS:Sat W w (M::H::F)):
  Calls prog 67 #[Pt p 0,I i,I m] w fun e w'=>∃M':Chunk,e= .returned (I (heldC B i m))/\RefR p (retB B i m) M'/\Sat W w' (M'::H::F):=by
 refine callsK 30 func67 rfl<|jCO 11 rfl<|cZ (r_held hB hW i m hS.flat1) ?_
 rintro _ _ ⟨rfl,l0⟩
 have e0:=l0.unflat1
 refine jOC 9 rfl<|CN (heldC B i m) 0 (fun b0=>jCR 8 rfl<|retT [I (heldC B i m)]<|(by have hr:retB B i m=B:=(by unfold retB;rw [if_neg b0]);exact ⟨_,rfl,by rw [hr];exact hB,e0⟩)) fun b0=>jCC 3 rfl ?_
 have G0:=b0;obtain ⟨B0,F0,z0⟩:=heldC_zero G0
 have m0:=(e0.picks [1,1])
 obtain ⟨a,n,k,ts,sa,sn,sk,ta,tn,tk,c,G,cs,ct,rfl,hO,hD,x0,w0,y0⟩:=hB
 have f0:Sat W _ ([(p, .cells #[.slice a n k, .slice sa sn sk, .slice ta tn tk] 179 (0,0))]::c::G::cs::ct::H::F):=Sat.perm m0 (by simp)
 have J0:=hO.ll;have K0:=x0.ll;have L0:=w0.ll;have C0:=congrArg List.length y0;rw [List.length_map] at C0;have N0:=hW.ls;have O0:=hW.la;have P0:=hW.n0
 have A0:0<=i/\i<(B.deps.length:Int):=B0;have M0:=stAt_nat B.st A0.1;have H0:=hW.att _ (getD_mem (q:=i.toNat) (s:=B.att) om)
 refine gCO f0 6 [0] rfl<|sIO x0 i (i).toNat fun g0 _ _ h0 _ o0=>?_
 have a1:B.st.getD i.toNat 0=g0:=by rw [List.getD_eq_getElem?_getD,h0];rfl
 refine sStF f0 x0 o0 3 (i).toNat 0 g0 2 h0 (I 2) [I 2] sizeOf3 fun _ i0 p0 c0=>gOO c0 9 [0] rfl<|sIO w0 i (i).toNat fun a0 _ _ j0 q0 _=>?_
 have f1:B.att.getD i.toNat 0=a0:=by rw [List.getD_eq_getElem?_getD,j0];rfl
 refine sMp c0 (q0.up 4 rfl) 0 (I a0)<|sAdd a0 1<|sIO w0 i (i).toNat fun r0 _ _ d0 _ s0=>?_
 obtain rfl:a0=r0:=Option.some.inj (j0.symm.trans d0)
 have j1:B.att.getD i.toNat 0=a0:=by rw [List.getD_eq_getElem?_getD,d0];rfl
 refine sStF c0 w0 s0 4 (i).toNat 0 a0 (a0+1) d0 (I (a0+1)) [I (a0+1)] sizeOf3 fun _ k0 t0 u0=>jOR 8 rfl<|retT [I 0] ?_
 have v0:Sat W _ (([(p, .cells #[.slice a n k, .slice sa sn sk, .slice ta tn tk] 179 (0,0))]++(c++(G++(i0++k0))))::H::F):=Sat.perm u0 (by simp)
 have hr:retB B i m=⟨B.deps,B.st.set i.toNat 2,B.att.set i.toNat (a0+1)⟩:=by unfold retB;rw [if_pos b0,show m=a0 by omega]
 exact ⟨_,by rw [b0];rfl,by rw [hr];exact ⟨_,_,_,ts,_,_,_,_,_,_,c,G,i0,k0,rfl,hO,hD,p0,t0,y0⟩,v0⟩
theorem open_step {s d:List Int} {j:Nat} {x:Int} (h:openB s (d.take j)=false) (hx:d[j]?=some x) (h4:stAt s x=4):openB s (d.take (j+1))=false:=by
  unfold openB at*
  rw [take_succ_at hx,List.any_append,h];simp [h4]
theorem r_open {p:Nat} {a sa ta:Option Addr} {n k sn sk tn tk:Nat} {ts:List Task} {ss:List Int} {c G cs:Chunk} (hO:OwnT encTask 51 9 a n k ts c) (hD:∀z∈ts,Task.Ok [G] z) (hOs:OwnT Go.E.encI 3 1 sa sn sk ss cs) {i:Nat} {t:Task} (ht:ts[i]?=some t) (hA:ascFrom i (-1) t.deps.l=true) (hns:n<=sn) (hS:Sat W w ([(p, .cells #[.slice a n k, .slice sa sn sk, .slice ta tn tk] 179 (0,0))]::c::G::cs::F)):
  Calls prog 178 #[Pt p 0,I (i:Int)] w fun e w'=>e= .returned (.bool (openB ss t.deps.l))/\Sat W w' ([(p, .cells #[.slice a n k, .slice sa sn sk, .slice ta tn tk] 179 (0,0))]::c::G::cs::F):=by
 have D0:=hO.ll;have E0:=hOs.ll;have B0:i<ts.length:=(List.getElem?_eq_some_iff.1 ht).1;have A0:=(hD t (List.mem_of_getElem? ht)).deps.len;have w0:=(hD t (List.mem_of_getElem? ht)).deps.le
 refine callsK 37 func178 rfl<|jCC 12 rfl<|loopF [0,1] (γ:=Nat) (fun j R=>⟨[(5,I (j:Int))],R,t.deps.n-j,j<=t.deps.n/\(openB ss (t.deps.l.take j)=false)⟩) 0 ⟨hS,om,by simp [openB]⟩ ?_
 rintro j ρ _ ⟨a0,hj,t0⟩
 refine gCO a0 9 [0] rfl<|sIO hO (i:Int) i fun j0 _ _ k0 l0 _=>?_
 obtain rfl:t=j0:=Option.some.inj (ht.symm.trans k0)
 refine pu1<|sMp a0 (l0.up 1 rfl) 6 (.slice t.deps.a t.deps.n t.deps.k)<|jOC 4 rfl<|CD ((j:Int)<(t.deps.n:Int)) (fun m0=>jCR 11 rfl<|retT [.bool false]<|(by rw [List.take_of_length_le om] at t0;exact ⟨by rw [t0];rfl,a0⟩)) fun m0=>jCC 5 rfl ?_
 obtain ⟨n0,x0,y0,c0,f0,g0,z0⟩:=OwnT.eN hO i
 obtain rfl:t=n0:=Option.some.inj (ht.symm.trans c0)
 obtain ⟨d0,a1,b1,b0,o0,p0⟩:=RdT.elem (hD t (List.mem_of_getElem? c0)).deps (j:Int)
 rw [Int.toNat_natCast] at b0
 have v0:=asc_mem hA d0 (List.mem_of_getElem? b0)
 obtain ⟨e0,c1,d1,h0,q0,r0,e1⟩:=OwnT.elem hOs d0
 refine drawF a0 [] (fb 3 0 1 1<|fb 7 0 0 1<|fq 11 6 (f0.up 1 rfl)<|fq 14 0 (o0.up 2 rfl)<|fq 16 0 (q0.up 3 rfl)<|fn) [0,1,2,4,5,6,8,12,3,7,9,10,11,13,14,15,16,17] fun _ i0=>wV 8<|wL 0<|wL 1<|wI g0<|wV 1<|wL 2<|wI p0<|wL 3<|wI r0<|wL 4<|wV 1<|wN<|jXC 1 rfl<|cN e0 4 (fun s0=>jCO 5 rfl<|sAdd (j:Int) 1<|jOI 2 rfl<|⟨j+1,od,alB,i0,om,(open_step t0 b0 (by rw [stAt_nat _ om,List.getD_eq_getElem?_getD,h0];simpa using (by omega:e0=4)))⟩) fun s0=>?_
 refine jCR 11 rfl<|retT [.bool true] ?_
 exact ⟨by rw [show openB ss t.deps.l=true from List.any_eq_true.2 ⟨d0,List.mem_of_getElem? b0,by rw [decide_eq_true_eq,stAt_nat _ om,List.getD_eq_getElem?_getD,h0];simpa using (by omega:¬e0=4)⟩];rfl,i0⟩
def stK (s:List Int) (D:List (List Int)) (k:Nat):List Int:=(List.range D.length).map fun q=>if q<k/\condB s D q=true then 2 else s.getD q 0
theorem stK_zero {s:List Int} {D:List (List Int)} (h:s.length=D.length):stK s D 0=s:=by
  unfold stK
  apply List.ext_getElem?
  intro q
  by_cases hq:q<D.length
  · exact (by rw [map_range_at hq,if_neg (by omega),List.getD_eq_getElem?_getD];have:q<s.length:=(by omega);simp only [List.getElem?_eq_getElem this,Option.getD_some])
  · rw [List.getElem?_eq_none (by simp;omega),List.getElem?_eq_none (by omega)]
theorem stK_all {s:List Int} {D:List (List Int)}:stK s D D.length=markB s D:=by
  unfold stK markB
  apply map_range
  intro q hq
  by_cases hc:condB s D q=true
  · rw [if_pos ⟨hq,hc⟩,if_pos hc]
  · rw [if_neg (fun h=>hc h.2),if_neg hc]
theorem stK_four {s:List Int} {D:List (List Int)} {k:Nat} (hl:s.length=D.length) (x:Int):stAt (stK s D k) x≠4↔stAt s x≠4:=by
 unfold stAt
 by_cases h:0<=x
 ·rw [if_pos h,if_pos h]
  by_cases h2:x.toNat<D.length
  ·unfold stK
   rw [getD_range h2]
   split
   · exact (by rename_i h3;have h4:=h3.2;simp only [condB,Bool.and_eq_true,decide_eq_true_eq] at h4;rw [h4.1];simp)
   ·exact Iff.rfl
  ·have e1:(stK s D k).getD x.toNat 0=0:=by rw [List.getD_eq_getElem?_getD,List.getElem?_eq_none (by simp [stK];omega)];rfl
   have e2:s.getD x.toNat 0=0:=by rw [List.getD_eq_getElem?_getD,List.getElem?_eq_none om];rfl
   rw [e1,e2]
 ·rw [if_neg h,if_neg h]
theorem stK_at {s:List Int} {D:List (List Int)} {k:Nat} (h:k<D.length):(stK s D k)[k]?=some (s.getD k 0):=by unfold stK;rw [map_range_at h,if_neg (by omega)]
theorem stK_y {s:List Int} {D:List (List Int)} {k:Nat} (h:condB s D k=true):(stK s D k).set k 2=stK s D (k+1):=by
  unfold stK
  rw [range_set]
  apply map_range
  intro q hq
  by_cases e:q=k
  · subst e;rw [if_pos rfl,if_pos ⟨by omega,h⟩]
  · rw [if_neg e]
    by_cases h2:q<k/\condB s D q=true
    · rw [if_pos h2,if_pos ⟨by omega,h2.2⟩]
    · rw [if_neg h2,if_neg (fun h3=>h2 ⟨by omega,h3.2⟩)]
theorem stK_n {s:List Int} {D:List (List Int)} {k:Nat} (h:condB s D k≠true):stK s D k=stK s D (k+1):=by
  unfold stK
  apply map_range
  intro q hq
  by_cases h2:q<k/\condB s D q=true
  · rw [if_pos h2,if_pos ⟨by omega,h2.2⟩]
  · rw [if_neg h2,if_neg (fun h3=>h2 ⟨by
      by_cases e:q=k
      · subst e;exact absurd h3.2 h
      · omega,h3.2⟩)]
def rdyK (s:List Int) (D:List (List Int)) (k:Nat):List Int:=((List.range k).filter (condB s D)).map fun (q:Nat)=>(q:Int)
theorem rdyK_y {s:List Int} {D:List (List Int)} {k:Nat} (h:condB s D k=true):rdyK s D k++[(k:Int)]=rdyK s D (k+1):=by
  unfold rdyK;rw [List.range_succ,List.filter_append,List.map_append];simp [h]
theorem rdyK_n {s:List Int} {D:List (List Int)} {k:Nat} (h:condB s D k≠true):rdyK s D k=rdyK s D (k+1):=by
  unfold rdyK;rw [List.range_succ,List.filter_append,List.map_append];simp [h]
theorem rdyK_len {s:List Int} {D:List (List Int)} {k:Nat}:(rdyK s D k).length<=k:=by
  unfold rdyK;rw [List.length_map];have:=List.length_filter_le (condB s D) (List.range k);simpa using this
theorem cond_y {B:BS} {K x:Int} {i j:Nat} {d:List Int} (hW:BWf B K) (hi:i<B.deps.length) (hj:j<B.deps.length) (hx:(stK (B.st.set i 4) B.deps j)[j]?=some x) (hd:B.deps[j]?=some d) (h1:x=1) (h2:openB (stK (B.st.set i 4) B.deps j) d=false):condB (B.st.set i 4) B.deps j=true:=by
  rw [stK_at hj] at hx
  rw [open_same (fun y _=>stK_four (by rw [List.length_set];exact hW.ls) y)] at h2
  unfold condB
  have a0:B.deps.getD j []=d:=by rw [List.getD_eq_getElem?_getD,hd];rfl
  rw [a0,h2,Option.some.inj hx,h1];rfl
theorem cond_n1 {B:BS} {K:Int} {i j:Nat} {d:List Int} (hW:BWf B K) (hi:i<B.deps.length) (hj:j<B.deps.length) (hd:B.deps[j]?=some d) (h2:openB (stK (B.st.set i 4) B.deps j) d=true):condB (B.st.set i 4) B.deps j≠true:=by
  rw [open_same (fun y _=>stK_four (by rw [List.length_set];exact hW.ls) y)] at h2
  unfold condB
  have a0:B.deps.getD j []=d:=by rw [List.getD_eq_getElem?_getD,hd];rfl
  rw [a0,h2];simp
theorem cond_n2 {s:List Int} {D:List (List Int)} {x:Int} {j:Nat} (hj:j<D.length) (hx:(stK s D j)[j]?=some x) (h1:x≠1):condB s D j≠true:=by
  rw [stK_at hj] at hx
  unfold condB
  rw [Option.some.inj hx,decide_eq_false h1];simp
theorem r_commit {p:Nat} {B:BS} {K:Int} {M:Chunk} (hB:RefR p B M) (hW:BWf B K) (i:Int) (m:Int) (hS:Sat W w (M::H::F)):
  Calls prog 132 #[Pt p 0,I i,I m] w fun e w'=>∃(az:Option Addr) (nz kz:Nat) (Z M':Chunk),e= .returned (.tuple #[.slice az nz kz,I (heldC B i m)])/\RdT Go.E.encI 1 [Z] az nz kz (comB B i m).2/\RefR p (comB B i m).1 M'/\Sat W w' (Z::M'::H::F):=by
 refine callsK 58 func132 rfl<|jCO 12 rfl<|cZ (r_held hB hW i m hS.flat1) ?_
 rintro _ _ ⟨rfl,q0⟩
 have h0:=q0.unflat1
 refine jOC 9 rfl<|CN (heldC B i m) 0 (fun c0=>jCR 9 rfl<|retT [nS,I (heldC B i m)]<|(by have r0:=Sat.nilc h0;have hr:comB B i m=(B,[]):=(by unfold comB;rw [if_neg c0]);exact ⟨_,_,_,[],_,rfl,by rw [hr];exact rN,by rw [hr];exact hB,r0⟩)) fun c0=>jCC 3 rfl ?_
 have F0:=c0;obtain ⟨I0,Q0,G0⟩:=heldC_zero F0
 have s0:=(h0.picks [1,1])
 obtain ⟨a,n,k,ts,sa,sn,sk,ta,tn,tk,c,G,cs,ct,rfl,hO,hD,C0,D0,E0⟩:=hB
 have i0:Sat W _ ([(p, .cells #[.slice a n k, .slice sa sn sk, .slice ta tn tk] 179 (0,0))]::c::G::cs::ct::H::F):=Sat.perm s0 (by simp)
 have T0:=hO.ll;have U0:=C0.ll;have V0:=D0.ll;have J0:=congrArg List.length E0;rw [List.length_map] at J0;have Y0:=hW.ls;have Z0:=hW.la;have f1:=hW.n0
 have H0:0<=i/\i<(B.deps.length:Int):=I0;have X0:=stAt_nat B.st H0.1;have R0:=hW.att _ (getD_mem (q:=i.toNat) (s:=B.att) om)
 refine gCO i0 6 [0] rfl<|sIO C0 i (i).toNat fun t0 _ _ u0 _ v0=>sStF i0 C0 v0 3 (i).toNat 0 t0 4 u0 (I 4) [I 4] sizeOf3 fun _ w0 x0 y0=>jOC 14 rfl<|loopF [0] (γ:=Nat×Chunk×SO) (fun ⟨j,A0,az,nz,kz,cz⟩ R=>⟨[(10,I (j:Int)),(9, .slice az nz kz)],cz::[(p, .cells #[.slice a n k, .slice sa sn sk, .slice ta tn tk] 179 (0,0))]::c::G::A0::R,n-j,j<=n/\OwnT Go.E.encI 3 1 sa sn sk (stK (B.st.set i.toNat 4) B.deps j) A0/\OwnT Go.E.encI 3 1 az nz kz (rdyK (B.st.set i.toNat 4) B.deps j) cz⟩) (0,w0,none,0,0,[]) ⟨(Sat.nilc y0),om,(by rw [stK_zero (by rw [List.length_set];omega)];exact x0),OwnT.nil fR⟩ ?_
 rintro ⟨j,A0,az,nz,kz,cz⟩ ρ _ ⟨a0,hj,z0,B0⟩
 have N0:=z0.len;have W0:=B0.ll;have P0:=rdyK_len (s:=(B.st.set i.toNat 4)) (D:=B.deps) (k:=j);have O0:(stK (B.st.set i.toNat 4) B.deps j).length=B.deps.length:=by simp [stK]
 refine gCC a0 12 [1] rfl<|CD ((j:Int)<(n:Int)) (fun a1=>jCR 13 rfl<|retT [.slice az nz kz,I 0]<|(by have b1:Sat W _ (cz::([(p, .cells #[.slice a n k, .slice sa sn sk, .slice ta tn tk] 179 (0,0))]++(c++(G++(A0++ct))))::H::F):=Sat.perm a0 (by simp);obtain rfl:j=B.deps.length:=(by omega);have hr:comB B i m=(⟨B.deps,markB (B.st.set i.toNat 4) B.deps,B.att⟩,rdyB (B.st.set i.toNat 4) B.deps):=(by unfold comB;rw [if_pos F0]);rw [stK_all] at z0;exact ⟨_,_,_,cz,_,by rw [F0];rfl,by rw [hr];exact B0.rdAt (cs:=[cz]) 0 rfl,by rw [hr];exact ⟨_,_,_,ts,_,_,_,_,_,_,c,G,A0,ct,rfl,hO,hD,z0,D0,E0⟩,b1⟩)) fun a1=>gCO a0 11 [1] rfl<|sIO z0 (j:Int) j fun b0 _ _ d0 c1 _=>sMp a0 (c1.up 4 rfl) 0 (I b0)<|pu2<|SE 41 b0 1 (fun d1=>jOO 13 rfl<|sAdd (j:Int) 1<|jOI 2 rfl<|(by have j0:condB (B.st.set i.toNat 4) B.deps j≠true:=cond_n2 om d0 om;exact ⟨(j+1,A0,az,nz,kz,cz),od,alB,a0,om,(by rw [<-stK_n j0];exact z0),(by rw [<-rdyK_n j0];exact B0)⟩)) fun d1=>pu2<|gY ?_
 have e1:=(a0.picks [4,4,4,4])
 obtain ⟨k0,l0⟩:∃t,ts[j]?=some t:=⟨ts[j]'om,List.getElem?_eq_getElem _⟩
 have e0:B.deps[j]?=some k0.deps.l:=by rw [<-E0];simp [l0]
 refine cZ (r_open hO hD z0 l0 (hW.asc _ _ e0) om e1) ?_
 rintro _ _ ⟨rfl,f0⟩
 refine jOC 4 rfl<|cBn (openB (stK (B.st.set i.toNat 4) B.deps j) k0.deps.l) (fun g0=>jCO 5 rfl<|sAdd (j:Int) 1<|jOI 2 rfl<|(by have m0:condB (B.st.set i.toNat 4) B.deps j≠true:=cond_n1 hW om om e0 (by simpa using g0);exact ⟨(j+1,A0,az,nz,kz,cz),od,alB,(f0.pick 4 rfl),om,(by rw [<-stK_n m0];exact z0),(by rw [<-rdyK_n m0];exact B0)⟩)) fun g0=>gCO f0 7 [0] rfl<|sIO z0 (j:Int) j fun g1 _ _ o0 _ h1=>?_
 obtain rfl:b0=g1:=Option.some.inj (d0.symm.trans o0)
 exact sStF f0 z0 h1 3 j 0 b0 2 o0 (I 2) [I 2] sizeOf3 fun _ i1 j1 k1=>jOO 5 rfl<|sBK k1 #[I (j:Int)] 3 fun _ _ l1=>sApp (nb:=8) l1 B0 5 (RdT.blk (enc:=Go.E.encI) (sz:=1) (xs:=[(j:Int)]) fR 1 0 rfl rfl rfl om) underlying22 (i:=Tryz.t3) kr fR fun m1 n1 o1 _ q1 r1=>jOO 6 rfl<|sAdd (j:Int) 1<|jOI 2 rfl<|(by have p0:condB (B.st.set i.toNat 4) B.deps j=true:=cond_y hW om om d0 e0 om (by simpa using g0);exact ⟨(j+1,i1,m1,(nz+1),n1,o1),od,alB,((r1.pick 5 rfl).dropAt 1 rfl),om,(by rw [<-stK_y p0];exact j1),(by rw [<-rdyK_y p0];exact q1)⟩)
end Go.Proofs.YtkadmghedmodbaaGreat

namespace Go.Proofs.YtkadmghedmodbaaGreat
open Go Go.E Go.Proofs.Tryz
set_option linter.all false
set_option maxRecDepth 100000
set_option maxHeartbeats 2000000
variable {W w:World} {H:Chunk} {F:List Chunk}
def ArR (p:Nat) (S:AS) (M:Chunk):Prop:=∃(a:Option Addr) (n k:Nat) (c:Chunk),M=[(p, .cells #[.int .i64 S.cap, .int .i64 S.used, .int .i64 S.high, .slice a n k] 164 (0,0))]++c/\OwnT Go.E.encI 3 1 a n k S.marks c/\S.Wf
theorem r1_ceil (x:Int) (y:Int) (hx:0<=x/\x<=1048576) (hy:1<=y/\y<=4096) (hS:Sat W w (H::F)):
  Ro prog 189 #[I x,I y] (I (ceilD x y)) W w (H::F):=by
 obtain ⟨d0,e0,f0,g0,h0⟩:=ceilD_bd hx hy
 exact callsK 22 func189 rfl<|jCO 11 rfl<|sD 8 (x<0) (fun a0=>jOR 13 rfl<|retT [I 0]<|(by omega)) fun a0=>jOC 5 rfl<|cD (y<1) (fun b0=>jCR 7 rfl<|retT [I 0]<|(by omega)) fun b0=>jCO 6 rfl<|sQuo x y<|jOO 8 rfl<|sRem x y<|jOC 3 rfl<|CD ((x.tmod y)>0) (fun c0=>jCR 9 rfl<|retT [I (x.tdiv y)]<|⟨by unfold ceilD;rw [if_neg om];rfl,hS⟩) fun c0=>jCO 2 rfl<|sAdd (x.tdiv y) 1<|jOR 10 rfl<|retT [I ((x.tdiv y)+1)]<|⟨by unfold ceilD;rw [if_pos om];rfl,hS⟩
theorem r1_mul {cs:List Chunk} (x y z:Int) (hx:0<=x/\x<=1048577) (hy:1<=y/\y<=4096) (hz:0<=z/\z<=1048576) (hS:Sat W w cs):
  Calls prog 188 #[I x,I y,I z] w fun e w'=>(x*y<=z/\e= .returned (.tuple #[I (x*y), .bool true])\/¬(x*y<=z)/\e= .returned (.tuple #[I 0, .bool false]))/\Sat W w' cs:=by
 have hq:0<=z.tdiv y/\z.tdiv y<=1048576:=by rw [Int.tdiv_eq_ediv_of_nonneg hz.1];exact ⟨Int.ediv_nonneg hz.1 om,by have:=Int.ediv_le_self y hz.1;omega⟩
 have f0:=mul_lim (c:=x) (a:=y) (l:=z) hx.1 hy.1 hz.1
 exact callsK 32 func188 rfl<|jCO 12 rfl<|sD 10 (x<0) (fun a0=>jOR 29 rfl<|retT [I 0, .bool false]<|⟨.inr ⟨fun h=>by have:=f0.2 h;omega,rfl⟩,hS⟩) fun a0=>pu4<|sD 14 (y<0) (fun b0=>jOR 25 rfl<|retT [I 0, .bool false]<|⟨.inr ⟨fun h=>by have:=f0.2 h;omega,rfl⟩,hS⟩) fun b0=>pu4<|sD 18 (z<0) (fun c0=>jOR 21 rfl<|retT [I 0, .bool false]<|⟨.inr ⟨fun h=>by have:=f0.2 h;omega,rfl⟩,hS⟩) fun c0=>pu3<|SD 21 (y>0) (fun d0=>jOC 13 rfl<|(by have g0:=f0.1 om;have h0:=Int.mul_nonneg hx.1 (show (0:Int)<=y by omega);exact jCO 3 rfl<|sMul x y<|jOR 5 rfl<|retT [I (x*y), .bool true]<|⟨.inl ⟨f0.1 om,rfl⟩,hS⟩)) fun d0=>pu3<|gY<|sQuo z y<|jOC 5 rfl<|cD (x>(z.tdiv y)) (fun e0=>jCR 8 rfl<|retT [I 0, .bool false]<|⟨.inr ⟨fun h=>by have:=f0.2 h;omega,rfl⟩,hS⟩) fun e0=>jCC 3 rfl<|(by have g0:=f0.1 om;have h0:=Int.mul_nonneg hx.1 (show (0:Int)<=y by omega);exact jCO 3 rfl<|sMul x y<|jOR 5 rfl<|retT [I (x*y), .bool true]<|⟨.inl ⟨f0.1 om,rfl⟩,hS⟩)
theorem r1_align {cs:List Chunk} (x y z:Int) (hx:0<=x/\x<=1048576) (hy:1<=y/\y<=4096) (hz:0<=z/\z<=1048576) (hS:Sat W w cs):
  Calls prog 177 #[I x,I y,I z] w fun e w'=>(alignI x y<=z/\e= .returned (.tuple #[I (alignI x y), .bool true])\/¬(alignI x y<=z)/\e= .returned (.tuple #[I 0, .bool false]))/\Sat W w' cs:=by
 obtain ⟨f0,g0,h0,i0,j0⟩:=ceilD_bd hx hy
 refine callsK 22 func177 rfl<|jCO 12 rfl<|sD 10 (x<0) (fun c0=>jOR 14 rfl<|retT [I 0, .bool false]<|(by omega)) fun c0=>jOC 5 rfl<|cD (y<1) (fun d0=>jCR 8 rfl<|retT [I 0, .bool false]<|(by omega)) fun d0=>jCO 6 rfl<|cS (r1_ceil x y (od) (od) hS.flat) fun _ e0=>pu2<|cZ (r1_mul (ceilD x y) y z om om om e0) ?_
 rintro _ _ ⟨⟨a0,rfl⟩|⟨a0,rfl⟩,b0⟩
 rotate_left
 ·exact jOR 7 rfl<|retT [I 0, .bool false]<|⟨.inr ⟨a0,rfl⟩,b0⟩
 exact jOR 7 rfl<|retT [I ((ceilD x y)*y), .bool true]<|⟨.inl ⟨a0,rfl⟩,b0⟩
theorem ar_mark {p:Nat} {S:AS} {M:Chunk} (hR:ArR p S M) (hS:Sat W w (M::H::F)):
  Calls prog 129 #[Pt p 0] w fun e w'=>∃M':Chunk,e= .returned (I (if 1024<=S.marks.length then 19 else 0))/\ArR p (markA S) M'/\Sat W w' (M'::H::F):=by
 obtain ⟨a,n,k,c,rfl,hO,hW⟩:=hR
 have hS:Sat W _ ([(p, .cells #[I S.cap,I S.used,I S.high, .slice a n k] 164 (0,0))]::c::H::F):=Sat.perm hS (by simp)
 have hn:=hO.ll;have l0:=hW.c;have m0:=hW.u;have n0:=hW.h
 refine callsK 24 func129 rfl<|gCC hS 26 [0] rfl<|cD ((n:Int)>=1024) (fun b0=>jCR 7 rfl<|retT [I 19]<|(by have c0:=(hS.merge2);have he:markA S=S:=(by unfold markA;rw [if_pos om]);exact ⟨_,by rw [if_pos om];rfl,by rw [he];exact ⟨_,_,_,_,rfl,hO,hW⟩,c0⟩)) fun b0=>jCC 3 rfl<|drawF hS [9,10,13] (fb 4 0 3 1<|fb 8 0 1 1<|fn) [0,1,2,3,5,6,7,4,8,9,10,11,12,13] fun _ d0=>wV 7<|wL 0<|wL 1<|wO rfl<|sBK d0 #[I S.used] 3 fun _ _ a0=>nZ a0 [1]<|wO rfl<|sApp (nb:=8) a0 hO 2 (RdT.blk (enc:=Go.E.encI) (sz:=1) (xs:=[S.used]) fR 1 0 rfl rfl rfl om) underlying22 (i:=Tryz.t3) kr fR fun e0 f0 _ _ g0 h0=>nA<|wV 2<|wO rfl<|tWk h0 1 rfl 3 (.slice e0 (n+1) f0) fun _ i0=>nA<|wN<|jXR 7 rfl<|retT [I 0] ?_
 have j0:=(i0.dropAt 0 rfl)
 have k0:=(j0.merge2)
 have he:markA S={S with marks:=S.marks++[S.used]}:=by unfold markA;rw [if_neg om]
 exact ⟨_,by rw [if_neg om];rfl,by rw [he];exact ⟨_,_,_,_,rfl,g0,⟨hW.c,hW.u,hW.h,by intro x hx;rcases List.mem_append.1 hx with h|h;exact hW.m x h;rw [List.mem_singleton.1 h];exact ⟨hW.u.1,hW.h.1⟩⟩⟩,k0⟩
theorem ar_alloc {p:Nat} {S:AS} {M:Chunk} (hR:ArR p S M) (x:Int) (y:Int) (hS:Sat W w (M::H::F)):
  Calls prog 130 #[Pt p 0,I x,I y] w fun e w'=>∃(M':Chunk) (v:Int),e= .returned (.tuple #[I v,I (allocC S x y)])/\ArR p (allocA S x y) M'/\Sat W w' (M'::H::F):=by
 obtain ⟨a,n,k,c,rfl,hO,hW⟩:=hR
 have hS:Sat W _ ([(p, .cells #[I S.cap,I S.used,I S.high, .slice a n k] 164 (0,0))]::c::H::F):=Sat.perm hS (by simp)
 have hn:=hO.ll;have t0:=hW.c;have u0:=hW.u;have v0:=hW.h
 refine callsK 70 func130 rfl<|jCO 22 rfl<|sD 14 (x<1) (fun b0=>jOR 22 rfl<|retT [I 0,I 2]<|(by have hc:allocC S x y=2:=(by unfold allocC;rw [if_pos om]);have c0:=(hS.merge2);have he:allocA S x y=S:=(by unfold allocA;rw [hc,if_neg (by decide)]);exact ⟨_,_,by rw [hc];rfl,by rw [he];exact ⟨_,_,_,_,rfl,hO,hW⟩,c0⟩)) fun b0=>pu4<|sD 18 (x>1048576) (fun d0=>jOR 18 rfl<|retT [I 0,I 2]<|(by have hc:allocC S x y=2:=(by unfold allocC;rw [if_pos om]);have e0:=(hS.merge2);have he:allocA S x y=S:=(by unfold allocA;rw [hc,if_neg (by decide)]);exact ⟨_,_,by rw [hc];rfl,by rw [he];exact ⟨_,_,_,_,rfl,hO,hW⟩,e0⟩)) fun d0=>pu4<|sD 22 (y<1) (fun f0=>jOR 14 rfl<|retT [I 0,I 2]<|(by have hc:allocC S x y=2:=(by unfold allocC;rw [if_pos om]);have g0:=(hS.merge2);have he:allocA S x y=S:=(by unfold allocA;rw [hc,if_neg (by decide)]);exact ⟨_,_,by rw [hc];rfl,by rw [he];exact ⟨_,_,_,_,rfl,hO,hW⟩,g0⟩)) fun f0=>jOC 5 rfl<|cD (y>4096) (fun h0=>jCR 8 rfl<|retT [I 0,I 2]<|(by have hc:allocC S x y=2:=(by unfold allocC;rw [if_pos om]);have i0:=(hS.merge2);have he:allocA S x y=S:=(by unfold allocA;rw [hc,if_neg (by decide)]);exact ⟨_,_,by rw [hc];rfl,by rw [he];exact ⟨_,_,_,_,rfl,hO,hW⟩,i0⟩)) fun h0=>jCC 3 rfl<|drawF hS [9] (fb 3 0 1 1<|fb 8 0 0 1<|fn) [0,1,2,4,5,6,7,3,8,9,10,11,12,13,14] fun _ j0=>wV 7<|wL 0<|wL 1<|wO rfl ?_
 have s0:=align_nn (u:=S.used) (a:=y) om om
 refine cZ (r1_align S.used y S.cap om om om j0) ?_
 rintro _ _ ⟨⟨k0,rfl⟩|⟨k0,rfl⟩,a0⟩
 rotate_left
 · exact nA<|wV 1<|wV 1<|wV 1<|wV 2<|wN<|jXR 27 rfl<|retT [I 0,I 19]<|(by have hc:allocC S x y=19:=(by unfold allocC;rw [if_neg om,if_neg om]);have l0:=(a0.merge2);have he:allocA S x y=S:=(by unfold allocA;rw [hc,if_neg (by decide)]);exact ⟨_,_,by rw [hc];rfl,by rw [he];exact ⟨_,_,_,_,rfl,hO,hW⟩,l0⟩)
 refine nA<|wV 1<|wV 1<|wV 1<|wV 2<|wN<|gXO a0 13 [0] rfl<|gY<|sSub S.cap (alignI S.used y)<|jOC 4 rfl<|cD (x>(S.cap-(alignI S.used y))) (fun m0=>jCR 8 rfl<|retT [I 0,I 19]<|(by have hc:allocC S x y=19:=(by unfold allocC;rw [if_neg om,if_neg om]);have n0:=(a0.merge2);have he:allocA S x y=S:=(by unfold allocA;rw [hc,if_neg (by decide)]);exact ⟨_,_,by rw [hc];rfl,by rw [he];exact ⟨_,_,_,_,rfl,hO,hW⟩,n0⟩)) fun m0=>jCO 7 rfl<|sAdd (alignI S.used y) x<|pu2<|tWk a0 0 rfl 1 (I ((alignI S.used y)+x)) fun _ o0=>jOC 3 rfl<|drawF o0 [12] (fb 4 0 2 1<|fb 8 0 1 1<|fn) [0,1,2,3,5,6,7,4,8,9,10,11,12] fun _ p0=>wV 7<|wL 0<|wL 1<|wY (I (max S.high ((alignI S.used y)+x))) rfl (fun w _=>Y_max2 S.high ((alignI S.used y)+x) rfl rfl kr kr)<|wV 2<|wO rfl<|tWk p0 0 rfl 2 (I (max S.high ((alignI S.used y)+x))) fun _ q0=>nA<|wN<|jXR 9 rfl<|retT [I (alignI S.used y),I 0] ?_
 have hc:allocC S x y=0:=by unfold allocC;rw [if_neg om,if_pos om]
 have r0:=(q0.merge2)
 have he:allocA S x y={S with used:=alignI S.used y+x,high:=(max S.high ((alignI S.used y)+x))}:=by unfold allocA;rw [if_pos hc]
 exact ⟨_,_,by rw [hc];rfl,by rw [he];exact ⟨_,_,_,_,rfl,hO,⟨hW.c,by dsimp only;omega,by dsimp only;omega,fun z hz=>⟨(hW.m z hz).1,by have h:=(hW.m z hz).2;dsimp only;omega⟩⟩⟩,r0⟩
theorem ar_release {p:Nat} {S:AS} {M:Chunk} (hR:ArR p S M) (hS:Sat W w (M::H::F)):
  Calls prog 133 #[Pt p 0] w fun e w'=>∃(M':Chunk) (v:Int),e= .returned (I v)/\ArR p (relA S) M'/\Sat W w' (M'::H::F):=by
 obtain ⟨a,n,k,c,rfl,hO,hW⟩:=hR
 have hS:Sat W _ ([(p, .cells #[I S.cap,I S.used,I S.high, .slice a n k] 164 (0,0))]::c::H::F):=Sat.perm hS (by simp)
 have hn:=hO.ll;have q0:=hW.c;have r0:=hW.u;have s0:=hW.h
 refine callsK 42 func133 rfl<|gCC hS 20 [0] rfl<|cE (n:Int) 0 (fun c0=>jCR 7 rfl<|retT [I 20]<|(by have d0:=(hS.merge2);have he:relA S=S:=(by unfold relA;rw [List.getLast?_eq_none_iff.2 (List.length_eq_zero_iff.1 om)]);exact ⟨_,_,rfl,by rw [he];exact ⟨_,_,_,_,rfl,hO,hW⟩,d0⟩)) fun c0=>?_
 refine jCC 3 rfl ?_
 obtain ⟨a0,m0,n0,b0,e0,f0,o0⟩:=OwnT.elem hO ((n:Int)-1)
 refine drawF hS [15] (fb 4 0 3 1<|fb 8 0 3 1<|fq 12 0 (e0.up 1 rfl)<|fn) [0,1,2,3,5,6,7,4,8,9,10,11,12,13,14,15] fun _ g0=>wV 7<|wL 0<|wL 1<|wV 1<|wSub (n:Int) 1<|wI f0<|wL 2<|wV 2<|wO rfl<|tWk g0 0 rfl 1 (I a0) fun _ h0=>nA<|wN<|jXC 2 rfl<|drawF h0 [14] (fb 4 0 3 1<|fb 8 0 3 1<|fn) [0,1,2,3,5,6,7,4,8,9,10,11,12,13,14] fun _ i0=>wV 7<|wL 0<|wL 1<|wV 1<|wSub (n:Int) 1 ?_
 have j0:=hO.part (lo:=0) (hi:=(((n:Int)-1)).toNat) om om
 refine wY (.slice (partAddr a k 0 1) ((((n:Int)-1)).toNat-0) (k-0)) rfl (fun w _=>Y_sl (a:=a) (len:=n) (cap:=k) none (some ((n:Int)-1)) 0 ((((n:Int)-1)).toNat) runUnderlying22 sizeOf3 rfl ⟨om,om⟩ om om)<|wV 2<|wO rfl<|tWk i0 0 rfl 3 (.slice (partAddr a k 0 1) ((((n:Int)-1)).toNat-0) (k-0)) fun _ k0=>nA<|wN<|jXR 7 rfl<|retT [I 0] ?_
 have p0:S.marks.getLast?=some a0:=by rw [List.getLast?_eq_getElem?,<-b0];congr 1;omega
 have l0:=(k0.merge2)
 have he:relA S={S with used:=a0,marks:=((S.marks.drop 0).take ((((n:Int)-1)).toNat-0))}:=by unfold relA;rw [p0];simp only [List.drop_zero,List.dropLast_eq_take];congr 2;omega
 exact ⟨_,_,rfl,by rw [he];exact ⟨_,_,_,_,rfl,j0,⟨hW.c,by have h:=hW.m _ (List.mem_of_getElem? b0);dsimp only;omega,⟨(hW.m _ (List.mem_of_getElem? b0)).2,hW.h.2⟩,fun z hz=>hW.m z (List.mem_of_mem_drop (List.mem_of_mem_take hz))⟩⟩,l0⟩
theorem ar_reset {p:Nat} {S:AS} {M:Chunk} (hR:ArR p S M) (hS:Sat W w (M::H::F)):
  Calls prog 69 #[Pt p 0] w fun e w'=>∃M':Chunk,e= .returned (.tuple #[])/\ArR p (resetA S) M'/\Sat W w' (M'::H::F):=by
 obtain ⟨a,n,k,c,rfl,hO,hW⟩:=hR
 have hS:Sat W _ ([(p, .cells #[I S.cap,I S.used,I S.high, .slice a n k] 164 (0,0))]::c::H::F):=Sat.perm hS (by simp)
 have hn:=hO.ll;have e0:=hW.c;have f0:=hW.u;have g0:=hW.h
 exact callsK 10 func69 rfl<|jCO 12 rfl<|tWk hS 0 rfl 1 (I 0) fun _ a0=>pu2<|tWk a0 0 rfl 3 (nS) fun _ b0=>nilO<|ret0n rfl<|(by have c0:=(b0.dropAt 1 rfl);have d0:Sat W _ (([(p, .cells #[I S.cap,I 0,I S.high,nS] 164 (0,0))]++([]:Chunk))::H::F):=Sat.perm (show Sat W _ ([(p, .cells #[I S.cap,I 0,I S.high,nS] 164 (0,0))]::H::F) from c0) (by simp);have he:resetA S=⟨S.cap,0,S.high,[]⟩:=rfl;exact ⟨_,rfl,by rw [he];exact ⟨_,_,_,_,rfl,OwnT.nil fR,⟨hW.c,by dsimp only;omega,by dsimp only;omega,fun x hx=>by cases hx⟩⟩,d0⟩)
theorem ar_used {p:Nat} {S:AS} {M:Chunk} (hR:ArR p S M) (hS:Sat W w (M::H::F)):
    Calls prog 131 #[.pointer (some ⟨p,0,none⟩)] w fun e w'=>e= .returned (.int .i64 S.used)/\Sat W w' (M::H::F):=by
  obtain ⟨a,n,k,c,rfl,hO,hW⟩:=hR
  have hS:Sat W _ ([(p, .cells #[.int .i64 S.cap, .int .i64 S.used, .int .i64 S.high, .slice a n k] 164 (0,0))]::c::H::F):=Sat.perm hS (by simp)
  have hn:=hO.ll;have a0:=hW.c;have b0:=hW.u;have c0:=hW.h
  exact callsK 9 func131 rfl<|gCR hS 25 [0] rfl<|retT [.int .i64 S.used]<|⟨rfl,(hS.merge2)⟩
theorem ar_high {p:Nat} {S:AS} {M:Chunk} (hR:ArR p S M) (hS:Sat W w (M::H::F)):
    Calls prog 115 #[.pointer (some ⟨p,0,none⟩)] w fun e w'=>e= .returned (.int .i64 S.high)/\Sat W w' (M::H::F):=by
  obtain ⟨a,n,k,c,rfl,hO,hW⟩:=hR
  have hS:Sat W _ ([(p, .cells #[.int .i64 S.cap, .int .i64 S.used, .int .i64 S.high, .slice a n k] 164 (0,0))]::c::H::F):=Sat.perm hS (by simp)
  have hn:=hO.ll;have a0:=hW.c;have b0:=hW.u;have c0:=hW.h
  exact callsK 9 func115 rfl<|gCR hS 25 [0] rfl<|retT [.int .i64 S.high]<|⟨rfl,(hS.merge2)⟩
theorem r22_new {cs:List Chunk} (c:Int) (hc:0<=c/\c<=1048576) (hS:Sat W w cs):
  Calls prog 47 #[I c] w fun e w'=>∃(p:Nat) (M:Chunk),e= .returned (.tuple #[Pt p 0,I 0])/\ArR p ⟨c,0,0,[]⟩ M/\Sat W w' (M::cs):=by
 exact callsK 13 func47 rfl<|jCO 12 rfl<|sD 6 (c<0) (fun a0=>jOR 14 rfl<|retT [.pointer none,I 2]<|(by omega)) fun a0=>jOC 5 rfl<|cD (c>1048576) (fun b0=>jCR 8 rfl<|retT [.pointer none,I 2]<|(by omega)) fun b0=>jCO 6 rfl<|sBx hS [I c,I 0,I 0,nS] fun c0 _ d0=>jOR 5 rfl<|retT [Pt c0 0,I 0]<|⟨_,_,rfl,⟨_,_,_,[],rfl,OwnT.nil fR,⟨hc,by dsimp only;omega,by dsimp only;omega,fun x hx=>by cases hx⟩⟩,d0⟩
def DqR (p:Nat) (S:DS) (M:Chunk):Prop:=∃(a:Option Addr) (n k:Nat) (c:Chunk),M=[(p, .cells #[.int .i64 S.cap, .slice a n k] 166 (0,0))]++c/\OwnT encRef 61 2 a n k S.l c/\S.Wf
theorem r23_without (al:Option Addr) (nl kl:Nat) (l:List Ref) (j:Int) (hl:RdT encRef 2 [H] al nl kl l) (hlb:l.length<=4096) (hS:Sat W w (H::F)):
  Calls prog 121 #[.slice al nl kl,I j] w fun e w'=>∃(az:Option Addr) (nz kz:Nat) (G:Chunk),e= .returned (.slice az nz kz)/\OwnT encRef 61 2 az nz kz (without j l) G/\Sat W w' (G::H::F):=by
 have w0:=hl.ll
 refine callsK 28 func121 rfl<|jCC 17 rfl<|loopF [0,1] (γ:=Nat×(List Ref)×SO) (fun ⟨i,zs,r0,f0,s0,t0⟩ R=>⟨[(6,I (i:Int)),(5, .slice r0 f0 s0)],t0::R,nl-i,i<=nl/\(zs=without j (l.take i))/\(zs.length<=i)/\OwnT encRef 61 2 r0 f0 s0 zs t0⟩) (0,[],none,0,0,[]) ⟨(Sat.nilc hS),om,rfl,by simp,(OwnT.nil (enc:=encRef) (E:=61) (sz:=2) fR)⟩ ?_
 rintro ⟨i,zs,r0,f0,s0,t0⟩ ρ _ ⟨b0,hi,hz,x0,e0⟩
 have u0:=e0.ll
 refine jCC 9 rfl<|CD ((i:Int)<(nl:Int)) (fun g0=>jCR 12 rfl<|retT [.slice r0 f0 s0]<|(by have hl:zs=without j l:=(by rw [hz,List.take_of_length_le om]);have v0:=e0;rw [hl] at v0;exact ⟨_,_,_,_,rfl,v0,b0⟩)) fun g0=>jCO 8 rfl<|sIN hl i fun a0 _ _ c0 h0=>pu1<|sMp b0 (h0.up 1 rfl) 0 (I a0.job)<|jOC 4 rfl<|cN a0.job j (fun i0=>jCO 5 rfl<|sAdd (i:Int) 1<|jOI 2 rfl<|⟨(i+1,zs,r0,f0,s0,t0),od,alB,b0,om,(without_n hz c0 om),(by first|omega|(simp;omega)),e0⟩) fun i0=>jCO 4 rfl<|sIN hl i fun j0 _ _ d0 k0=>?_
 obtain rfl:a0=j0:=Option.some.inj (c0.symm.trans d0)
 exact sMA b0 (k0.up 1 rfl) 0 [I a0.job,I a0.task]<|sBK b0 #[I a0.job,I a0.task] 61 fun _ _ l0=>sApp (nb:=16) l0 e0 1 (RdT.blk (enc:=encRef) (sz:=2) (xs:=[(⟨a0.job,a0.task⟩:Ref)]) fR 1 0 rfl rfl rfl om) underlying125 (i:=Tryz.t61) kr fR fun m0 n0 o0 _ p0 q0=>jOO 6 rfl<|sAdd (i:Int) 1<|jOI 2 rfl<|⟨(i+1,(zs++[(⟨a0.job,a0.task⟩:Ref)]),m0,(f0+1),n0,o0),od,alB,(q0.dropAt 0 rfl),om,(without_y hz c0 om),(by first|omega|(simp;omega)),p0⟩
theorem dq_len {p:Nat} {S:DS} {M:Chunk} (hR:DqR p S M) (hS:Sat W w (M::H::F)):
    Calls prog 143 #[.pointer (some ⟨p,0,none⟩)] w fun e w'=>e= .returned (.int .i64 (S.l.length:Int))/\Sat W w' (M::H::F):=by
  obtain ⟨a,n,k,c,rfl,hO,hW⟩:=hR
  have hS:Sat W _ ([(p, .cells #[.int .i64 S.cap, .slice a n k] 166 (0,0))]::c::H::F):=Sat.perm hS (by simp)
  have hn:=hO.len;have hl:=hO.le;have a0:=hW.c;have b0:=hW.n
  exact callsK 10 func143 rfl<|gCR hS 26 [0] rfl<|retT [.int .i64 (n:Int)]<|⟨by rw [hn];rfl,(hS.merge2)⟩
theorem dq_push {p:Nat} {S:DS} {M:Chunk} (hR:DqR p S M) (r:Ref) (hS:Sat W w (M::H::F)):
  Calls prog 134 #[Pt p 0, .agg #[I r.job,I r.task]] w fun e w'=>∃M':Chunk,e= .returned (I (pushC S))/\DqR p (pushD S r) M'/\Sat W w' (M'::H::F):=by
 obtain ⟨a,n,k,c,rfl,hO,hW⟩:=hR
 have hS:Sat W _ ([(p, .cells #[I S.cap, .slice a n k] 166 (0,0))]::c::H::F):=Sat.perm hS (by simp)
 have hn:=hO.ll;have p0:=hW.c;have q0:=hW.n
 refine callsK 34 func134 rfl<|jCO 2 rfl<|sBx hS [I r.job,I r.task] fun _ _ c0=>gOC c0 17 [1] rfl<|cE S.cap 0 (fun f0=>jCR 7 rfl<|retT [I 20]<|(by omega)) fun f0=>jCC 4 rfl<|drawF c0 [] (fb 3 1 1 1<|fb 8 1 0 1<|fn) [0,1,2,5,6,7,3,4,8,9] fun _ d0=>wV 6<|wL 0<|wV 1<|wL 1<|wV 1<|wN<|jXC 1 rfl<|cD ((n:Int)>=S.cap) (fun g0=>jCR 7 rfl<|retT [I 19]<|(by have hc:pushC S=19:=(by unfold pushC;rw [if_pos om]);have h0:=(d0.dropAt 0 rfl);have i0:=(h0.merge2);have he:pushD S r=S:=(by unfold pushD;rw [hc,if_neg (by decide)]);exact ⟨_,by rw [hc];rfl,by rw [he];exact ⟨_,_,_,_,rfl,hO,hW⟩,i0⟩)) fun g0=>jCC 3 rfl<|drawF d0 [6,7,10] (fb 4 1 1 1<|fb 5 0 0 2<|fn) [0,1,2,3,4,5,6,7,8,9,10] fun _ j0=>wV 4<|wL 0<|wG 1 2<|wO rfl<|sBK j0 #[I r.job,I r.task] 61 fun _ _ e0=>nZ e0 [2]<|wO rfl<|sApp (nb:=16) e0 hO 3 (RdT.blk (enc:=encRef) (sz:=2) (xs:=[(⟨r.job,r.task⟩:Ref)]) fR 1 0 rfl rfl rfl om) underlying125 (i:=Tryz.t61) kr fR fun a0 b0 _ _ k0 l0=>nA<|wV 2<|wO rfl<|sT l0 2 1 (.slice a0 (n+1) b0) [.slice a0 (n+1) b0] #[I S.cap, .slice a0 (n+1) b0] sizeOf125 fun _ m0=>nA<|wN<|jXR 7 rfl<|retT [I 0] ?_
 have hc:pushC S=0:=by unfold pushC;rw [if_neg om]
 have n0:=(m0.drops [0,0])
 have o0:=(n0.merge2)
 have he:pushD S r={S with l:=S.l++[r]}:=by unfold pushD;rw [if_pos hc]
 exact ⟨_,by rw [hc];rfl,by rw [he];exact ⟨_,_,_,_,rfl,k0,⟨hW.c,by simp only [List.length_append,List.length_singleton];omega⟩⟩,o0⟩
theorem dq_pop {p:Nat} {S:DS} {M:Chunk} (hR:DqR p S M) (hS:Sat W w (M::H::F)):
  Calls prog 136 #[Pt p 0] w fun e w'=>(S.l=[]/\e= .returned (.tuple #[.agg #[I 0,I 0], .bool false])/\Sat W w' (M::H::F))\/(∃(x:Ref) (M':Chunk),S.l.getLast?=some x/\e= .returned (.tuple #[.agg #[I x.job,I x.task], .bool true])/\DqR p {S with l:=S.l.dropLast} M'/\Sat W w' (M'::H::F)):=by
 obtain ⟨a,n,k,c,rfl,hO,hW⟩:=hR
 have hS:Sat W _ ([(p, .cells #[I S.cap, .slice a n k] 166 (0,0))]::c::H::F):=Sat.perm hS (by simp)
 have hn:=hO.ll;have p0:=hW.c;have x0:=hW.n
 refine callsK 36 func136 rfl<|jCO 2 rfl<|sAlloc hS zeroValue61 fun i0 _ j0=>jOO 7 rfl ?_
 have k0:=(j0.picks [2,2])
 refine cZ (dq_len ⟨_,_,_,_,rfl,hO,hW⟩ (Sat.flat1 (k0.merge2))) ?_
 rintro _ _ ⟨rfl,m0⟩
 have d0:Sat W _ ([(p, .cells #[I S.cap, .slice a n k] 166 (0,0))]::c::[(i0, .cells #[I 0,I 0] 61 (0,0))]::H::F):=Sat.perm (Sat.unflat1 m0) (by simp [Value.cells])
 refine jOC 3 rfl<|cE (S.l.length:Int) 0 (fun n0=>jCO 3 rfl<|sTk d0 2 rfl [I 0,I 0] fun _ e0=>jOR 5 rfl<|retD e0 2 [I 0,I 0] (.bool false)<|(by have o0:=(e0.dropAt 2 rfl);exact .inl ⟨List.length_eq_zero_iff.1 om,rfl,(o0.merge2)⟩)) fun n0=>jCC 3 rfl ?_
 obtain ⟨a0,a1,b1,q0,c0,r0,c1⟩:=OwnT.elem hO ((n:Int)-1)
 refine drawF d0 [12,13] (fb 3 0 1 1<|fb 7 0 1 1<|fp 11 (c0.up 1 rfl)<|fn) [0,1,2,4,5,6,3,7,8,9,10,11,12,13] fun _ s0=>wV 6<|wL 0<|wL 1<|wV 1<|wSub (n:Int) 1<|wI r0<|wG 2 2<|wO rfl<|sAlloc s0 zeroValue61 fun _ _ b0=>nilO ⟨⟨cI b0 1,cI b0 1, .inr ((c0.up 2 rfl).cell b0 (k:=0) rfl), .inr ((c0.up 2 rfl).cell b0 (k:=1) rfl),trivial⟩,?_⟩
 refine wO rfl<|sTk b0 0 rfl [I a0.job,I a0.task] fun _ t0=>nA<|wN<|jXC 2 rfl<|drawF t0 [14] (fb 4 1 1 1<|fb 8 1 1 1<|fn) [0,1,2,3,5,6,7,4,8,9,10,11,12,13,14] fun _ u0=>wV 7<|wL 0<|wL 1<|wV 1<|wSub (n:Int) 1 ?_
 have f0:=hO.part (lo:=0) (hi:=(((n:Int)-1)).toNat) om om
 refine wY (.slice (partAddr a k 0 2) ((((n:Int)-1)).toNat-0) (k-0)) rfl (fun w _=>Y_sl (a:=a) (len:=n) (cap:=k) none (some ((n:Int)-1)) 0 ((((n:Int)-1)).toNat) runUnderlying125 sizeOf61 rfl ⟨om,om⟩ om om)<|wV 2<|wO rfl<|sT u0 1 1 (.slice (partAddr a k 0 2) ((((n:Int)-1)).toNat-0) (k-0)) [.slice (partAddr a k 0 2) ((((n:Int)-1)).toNat-0) (k-0)] #[I S.cap, .slice (partAddr a k 0 2) ((((n:Int)-1)).toNat-0) (k-0)] sizeOf125 fun _ g0=>nA<|wN<|gXO g0 4 [200] rfl<|sTk g0 3 rfl [I a0.job,I a0.task] fun _ h0=>jOR 4 rfl<|retD h0 3 [I a0.job,I a0.task] (.bool true) ?_
 have v0:=(h0.drops [0,2])
 have w0:=(v0.merge2)
 have l0:S.l.getLast?=some a0:=by rw [List.getLast?_eq_getElem?,<-q0];congr 1;omega
 have he:S.l.dropLast=((S.l.drop 0).take ((((n:Int)-1)).toNat-0)):=by simp only [List.drop_zero,List.dropLast_eq_take];congr 1;omega
 exact .inr ⟨_,_,l0,rfl,by rw [he];exact ⟨_,_,_,_,rfl,f0,⟨hW.c,by have:=f0.len;dsimp only;omega⟩⟩,w0⟩
theorem dq_steal {p:Nat} {S:DS} {M:Chunk} (hR:DqR p S M) (hS:Sat W w (M::H::F)):
  Calls prog 139 #[Pt p 0] w fun e w'=>(S.l=[]/\e= .returned (.tuple #[.agg #[I 0,I 0], .bool false])/\Sat W w' (M::H::F))\/(∃(x:Ref) (M':Chunk),S.l.head?=some x/\e= .returned (.tuple #[.agg #[I x.job,I x.task], .bool true])/\DqR p {S with l:=S.l.tail} M'/\Sat W w' (M'::H::F)):=by
 obtain ⟨a,n,k,c,rfl,hO,hW⟩:=hR
 have hS:Sat W _ ([(p, .cells #[I S.cap, .slice a n k] 166 (0,0))]::c::H::F):=Sat.perm hS (by simp)
 have hn:=hO.ll;have p0:=hW.c;have u0:=hW.n
 refine callsK 25 func139 rfl<|jCO 2 rfl<|sAlloc hS zeroValue61 fun i0 _ j0=>jOO 7 rfl ?_
 have k0:=(j0.picks [2,2])
 refine cZ (dq_len ⟨_,_,_,_,rfl,hO,hW⟩ (Sat.flat1 (k0.merge2))) ?_
 rintro _ _ ⟨rfl,m0⟩
 have b0:Sat W _ ([(p, .cells #[I S.cap, .slice a n k] 166 (0,0))]::c::[(i0, .cells #[I 0,I 0] 61 (0,0))]::H::F):=Sat.perm (Sat.unflat1 m0) (by simp [Value.cells])
 refine jOC 3 rfl<|cE (S.l.length:Int) 0 (fun n0=>jCO 3 rfl<|sTk b0 2 rfl [I 0,I 0] fun _ e0=>jOR 5 rfl<|retD e0 2 [I 0,I 0] (.bool false)<|(by have o0:=(e0.dropAt 2 rfl);exact .inl ⟨List.length_eq_zero_iff.1 om,rfl,(o0.merge2)⟩)) fun n0=>gCO b0 8 [0] rfl<|sIO hO 0 0 fun a0 _ _ q0 r0 _=>sMA b0 (r0.up 1 rfl) 0 [I a0.job,I a0.task]<|sAlloc b0 zeroValue61 fun _ _ s0=>sTk s0 0 rfl [I a0.job,I a0.task] fun _ f0=>gOO f0 9 [1] rfl<|sSl (some 1) none 1 n runUnderlying125 sizeOf61 ⟨by decide,rfl⟩ rfl om om ?_ (a:=a) (len:=n) (cap:=k)
 have t0:=hO.part (lo:=1) (hi:=n) om om
 refine sApp (nb:=16) (Sat.nilc f0) (OwnT.nil (enc:=encRef) (E:=61) (sz:=2) fR) 0 (t0.rdAt 3 rfl) underlying125 (i:=Tryz.t61) kr fR fun c0 d0 _ _ w0 x0=>pu2<|sT x0 2 1 (.slice c0 (0+(n-1)) d0) [.slice c0 (0+(n-1)) d0] #[I S.cap, .slice c0 (0+(n-1)) d0] sizeOf125 fun _ g0=>gOO g0 5 [201] rfl<|sTk g0 4 rfl [I a0.job,I a0.task] fun _ h0=>jOR 4 rfl<|retD h0 4 [I a0.job,I a0.task] (.bool true) ?_
 have y0:=((h0.pick 2 rfl).drops [2,2,2])
 have z0:=(y0.merge2)
 have l0:S.l.head?=some a0:=by rw [List.head?_eq_getElem?];exact q0
 have he:S.l.tail=([]++((S.l.drop 1).take (n-1))):=by rw [<-List.drop_one];simp;exact (List.take_of_length_le (by simp;omega)).symm
 exact .inr ⟨_,_,l0,rfl,by rw [he];exact ⟨_,_,_,_,rfl,w0,⟨hW.c,by rw [<-he,List.length_tail];dsimp only;omega⟩⟩,z0⟩
theorem dq_remove {p:Nat} {S:DS} {M:Chunk} (hR:DqR p S M) (j:Int) (hS:Sat W w (M::H::F)):
  Calls prog 75 #[Pt p 0,I j] w fun e w'=>∃(M':Chunk) (v:Int),e= .returned (I v)/\DqR p ({S with l:=without j S.l}) M'/\Sat W w' (M'::H::F):=by
 obtain ⟨a,n,k,c,rfl,hO,hW⟩:=hR
 have hS:Sat W _ ([(p, .cells #[I S.cap, .slice a n k] 166 (0,0))]::c::H::F):=Sat.perm hS (by simp)
 have hn:=hO.ll;have j0:=hW.c;have k0:=hW.n
 refine callsK 29 func75 rfl<|gCO hS 33 [0,0] rfl<|cZ (r23_without a n k S.l j (RdT.flat (hO.rdAt 1 (by rfl))) (od) hS.flat) ?_
 rintro _ _ ⟨b0,a0,c0,_,rfl,d0,f0⟩
 have g0:=f0.unflat1
 have i0:=d0.ll
 exact pu2<|sT g0 1 1 (.slice b0 a0 c0) [.slice b0 a0 c0] #[I S.cap, .slice b0 a0 c0] sizeOf125 fun _ e0=>gOO e0 10 [1] rfl<|sSub (n:Int) (a0:Int)<|jOX 2 rfl<|(by have l0:=without_len j S.l;exact jXR 2 rfl<|retT [I ((n:Int)-(a0:Int))]<|(by have h0:=((e0.pick 1 rfl).dropAt 2 rfl);exact ⟨_,_,rfl,⟨_,_,_,_,rfl,d0,⟨hW.c,by have:=without_len j S.l;dsimp only;omega⟩⟩,(h0.merge2)⟩))
theorem dq_drain {p:Nat} {S:DS} {M:Chunk} (hR:DqR p S M) (hS:Sat W w (M::H::F)):
  Calls prog 68 #[Pt p 0] w fun e w'=>∃(a:Option Addr) (n k:Nat) (Z M':Chunk),e= .returned (.slice a n k)/\OwnT encRef 61 2 a n k S.l Z/\DqR p {S with l:=[]} M'/\Sat W w' (Z::M'::H::F):=by
 obtain ⟨a,n,k,c,rfl,hO,hW⟩:=hR
 have hS:Sat W _ ([(p, .cells #[I S.cap, .slice a n k] 166 (0,0))]::c::H::F):=Sat.perm hS (by simp)
 have hn:=hO.ll;have d0:=hW.c;have e0:=hW.n
 exact callsK 14 func68 rfl<|gCO hS 29 [0] rfl<|sT hS 0 1 (nS) [nS] #[I S.cap,nS] sizeOf125 fun _ a0=>jOR 9 rfl<|retT [.slice a n k]<|(by have b0:=(a0.pick 1 rfl);have c0:Sat W _ (c::([(p, .cells #[I S.cap,nS] 166 (0,0))]++([]:Chunk))::H::F):=Sat.perm (show Sat W _ (c::[(p, .cells #[I S.cap,nS] 166 (0,0))]::H::F) from b0) (by simp);exact ⟨_,_,_,_,_,rfl,hO,⟨_,_,_,_,rfl,OwnT.nil fR,⟨hW.c,by simp;omega⟩⟩,c0⟩)
theorem r23_new {cs:List Chunk} (c:Int) (hc:1<=c/\c<=256) (hS:Sat W w cs):
  Calls prog 48 #[I c] w fun e w'=>∃(p:Nat) (M:Chunk),e= .returned (.tuple #[Pt p 0,I 0])/\DqR p ⟨c,[]⟩ M/\Sat W w' (M::cs):=by
 exact callsK 13 func48 rfl<|jCO 12 rfl<|sD 6 (c<1) (fun a0=>jOR 14 rfl<|retT [.pointer none,I 2]<|(by omega)) fun a0=>jOC 5 rfl<|cD (c>256) (fun b0=>jCR 8 rfl<|retT [.pointer none,I 2]<|(by omega)) fun b0=>jCO 6 rfl<|sBx hS [I c,nS] fun c0 _ d0=>jOR 5 rfl<|retT [Pt c0 0,I 0]<|⟨_,_,rfl,⟨_,_,_,[],rfl,OwnT.nil fR,⟨hc,by simp;omega⟩⟩,d0⟩
end Go.Proofs.YtkadmghedmodbaaGreat
