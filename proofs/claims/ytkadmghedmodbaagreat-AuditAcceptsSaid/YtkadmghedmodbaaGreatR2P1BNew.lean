import Derived.Test.YtkadmghedmodbaaGreatR2P1Fj
set_option linter.all false
namespace Go.Proofs.YtkadmghedmodbaaGreat
open Go Go.E Go.Proofs.Tryz
set_option linter.all false
set_option maxRecDepth 100000
set_option maxHeartbeats 2000000
variable {W w:World} {H:Chunk} {F:List Chunk}
theorem nextOf_len:∀(k:Nat) (D:List (List Int)) (j:Int),(nextOf k D j).length<=D.length
  |_,[],_=>by simp [nextOf]
  |k,d::D,j=>by
    have:=nextOf_len (k+1) D j
    simp only [nextOf,List.length_append,List.length_cons]
    split<;>simp<;>omega
theorem nx_short {es:List BEnt} {l:List Task} {n i q:Nat} {e:List Int} {x:BEnt} (h:es.map BEnt.v=(List.range n).map (entN l (i+1) ((l.map (·.deps.l)).take i++[e]))) (hx:es[q]?=some x) (hi:i<4096):x.next.l.length<=4096:=by
  have h1:=(ent_at h hx).2
  have h2:=congrArg BEntV.next h1
  have h3:=nextOf_len 0 ((l.map (·.deps.l)).take i++[e]) q
  have h4:x.next.l=nextOf 0 ((l.map (·.deps.l)).take i++[e]) q:=by simp only [BEnt.v,entN] at h2;rw [h2];split<;>rfl
  rw [h4];simp at h3;omega
theorem b_new (al:Option Addr) (nl kl:Nat) (l:List Task) (hl:RdT encTask 9 [H] al nl kl l) (dl:∀z∈l,Task.Ok [H] z) (hS:Sat W w (H::F)):
  Calls prog 51 #[.slice al nl kl] w fun e w'=>(validC l≠0/\e= .returned (.tuple #[.pointer none,I (validC l)])/\Sat W w' (H::F))\/(validC l=0/\∃(p:Nat) (M:Chunk),e= .returned (.tuple #[Pt p 0,I 0])/\BoardR p (newB l) M/\Sat W w' (M::H::F)):=by
 have L0:=hl.ll
 refine callsK 95 func51 rfl<|jCO 13 rfl<|sE 15 (nl:Int) 0 (fun k2=>jOR 15 rfl<|retT [.pointer none,I 5]<| .inl ⟨by rw [validC_lim om];decide,by rw [validC_lim om];rfl,hS⟩) fun k2=>jOC 6 rfl<|cD ((nl:Int)>4096) (fun l2=>jCR 8 rfl<|retT [.pointer none,I 5]<| .inl ⟨by rw [validC_lim om];decide,by rw [validC_lim om];rfl,hS⟩) fun l2=>jCC 11 rfl<|loopF [0,20,21] (γ:=Nat) (fun i R=>⟨[(22,I (i:Int))],R,nl-i,i<=nl/\(tasksOK 0 (l.take i)=true)/\(0<nl/\nl<=4096)⟩) 0 ⟨hS,om,by simp [tasksOK],om⟩ ?_
 rintro i ρ _ ⟨x0,hi,H0,P0⟩
 refine jCC 6 rfl<|cD ((i:Int)<(nl:Int)) (fun m2=>jCO 7 rfl<|sIN hl i fun j0 _ _ l0 n2=>sMA x0 (n2.up 0 rfl) 0 (encTask j0)<|sAlloc x0 zeroValue51 fun _ _ o2=>pu1<|sTk o2 0 rfl (encTask j0) fun _ l1=>gOO l1 6 [900] rfl<|cS (b_valid j0 (i:Int) ⟨(RdT.flat ((dl j0 (List.mem_of_getElem? l0)).deps.up 1 (by rfl)))⟩ l1.flat) fun _ m1=>jOC 3 rfl<|cBn (taskOK (i:Int) j0) (fun y0=>jCO 4 rfl<|sAdd (i:Int) 1<|jOI 2 rfl<|⟨i+1,od,alB,(m1.dropAt 0 rfl),om,(by rw [tasksOK_take l0,H0];simpa using y0),om⟩) fun y0=>jCR 12 rfl<|retT [.pointer none,I 1]<|(by have r2:=(m1.dropAt 0 rfl);have I0:=validC_bad om om (tasksOK_no l0 (by simpa using y0));exact .inl ⟨by rw [I0];decide,by rw [I0];rfl,r2⟩)) fun m2=>jCC 6 rfl ?_
 have hV:tasksOK 0 l=true:=by rw [<-List.take_of_length_le (i:=i) (l:=l) om];exact H0
 refine jCO 3 rfl<|sMake (kl:= .i64) (kc:= .i64) (enc:=encBEnt) (sz:=4) (nb:=48) x0 ⟨0,0,0,⟨none,0,0,[]⟩⟩ nl (nl:Int) (rfl:(nl:Int)=(nl:Int)) underlying170 (i:=Tryz.t175) kr fR fun m0 n1 _ s2 t2=>pu1<|sBx t2 [.slice (At m0 0) nl nl,I 0] fun e0 _ u2=>jOC 12 rfl ?_
 have v2:Sat W _ ([(e0, .cells #[.slice (At m0 0) nl nl,I 0] 172 (0,0))]::n1::(List.replicate nl ([]:Chunk)).flatten::H::F):=Sat.perm u2 (by simp)
 refine loopF [37,38,6] (γ:=Nat×(Option Addr)×Nat×(List BEnt)×Chunk×(List Chunk)) (fun ⟨i,ae,ke,es,c,cs⟩ R=>⟨[(39,I (i:Int))],[(e0, .cells #[.slice ae nl ke,I 0] 172 (0,0))]::c::cs.flatten::R,nl-i,i<=nl/\OwnT encBEnt 175 4 ae nl ke es c/\Nx es cs/\es.map BEnt.v=(List.range nl).map (entN l i ((l.map (·.deps.l)).take i))⟩) (0,(At m0 0),nl,(List.replicate nl ⟨0,0,0,⟨none,0,0,[]⟩⟩),n1,(List.replicate nl [])) ⟨v2,om,s2,Nx.rep _ _ rfl,(by rw [List.take_zero];exact ents_init l nl _ rfl)⟩ ?_
 rintro ⟨i,ae,ke,es,c,cs⟩ ρ _ ⟨z0,hi,hO,hN,hE⟩
 have R0:=hO.ll
 refine jCC 6 rfl<|CD ((i:Int)<(nl:Int)) (fun w2=>jCR 13 rfl<|retT [Pt e0 0,I 0]<|(by obtain rfl:nl=i:=(by omega);have J0:=ents_new om hE;have x2:Sat W _ (([(e0, .cells #[.slice ae nl ke,I 0] 172 (0,0))]++(c++cs.flatten))::H::F):=Sat.perm z0 (by simp);exact .inr ⟨validC_ok om om hV,_,_,rfl,⟨_,_,_,es,c,cs.flatten,by rw [done_new],hO,hN.ok,J0⟩,x2⟩)) fun w2=>jCO 7 rfl<|sIN hl i fun a0 _ _ f0 y2=>sMA z0 (y2.up 3 rfl) 0 (encTask a0)<|sAlloc z0 zeroValue51 fun _ _ z2=>pu1<|sTk z2 0 rfl (encTask a0) fun _ o1=>nilO ?_
 have hA:=taskOK_asc (tasksOK_at hV f0)
 have S0:=(dl a0 (List.mem_of_getElem? f0)).deps.len;have Q0:=(dl a0 (List.mem_of_getElem? f0)).deps.le
 refine gXO o1 8 [1] rfl<|sIO hO (i:Int) i fun b0 _ _ i0 _ k0=>jOO 8 rfl<|sStF o1 hO k0 2 i 0 b0 (⟨2,b0.attempt,b0.pending,b0.next⟩:BEnt) i0 (I 2) [I 2] sizeOf3 fun _ _ q1 r1=>gOO r1 10 [0] rfl ?_
 have s1:=set_at (y:=(⟨2,b0.attempt,b0.pending,b0.next⟩:BEnt)) i0
 have x4:=OwnT.ptr q1 k0 s1
 refine sStF r1 q1 k0 2 i 2 (⟨2,b0.attempt,b0.pending,b0.next⟩:BEnt) (⟨2,b0.attempt,(a0.deps.n:Int),b0.next⟩:BEnt) s1 (I (a0.deps.n:Int)) [I (a0.deps.n:Int)] sizeOf3 fun _ a3 n0 o0=>?_
 rw [List.set_set] at n0
 refine jOO 8 rfl ?_
 have t1:=set_at (y:=(⟨2,b0.attempt,(a0.deps.n:Int),b0.next⟩:BEnt)) i0
 refine sMp o0 ((OwnT.ptr n0 k0 t1).up 2 rfl) 2 (I (a0.deps.n:Int))<|jOC 3 rfl<|cD ((a0.deps.n:Int)>0) (fun c3=>?_) (fun c3=>?_)
 rotate_left
 ·refine gCC o0 11 [0] rfl<|loopF [68,69,7,6,39,37,38] (γ:=Nat×(List BEnt)×Chunk×(List Chunk)) (fun ⟨j,B0,c1,A0⟩ R=>⟨[(70,I (j:Int))],[(e0, .cells #[.slice ae nl ke,I 0] 172 (0,0))]::c1::A0.flatten::R,a0.deps.n-j,j<=a0.deps.n/\OwnT encBEnt 175 4 ae nl ke B0 c1/\Nx B0 A0/\B0.map BEnt.v=(List.range nl).map (entN l (i+1) ((l.map (·.deps.l)).take i++[a0.deps.l.take j]))⟩) (0,(es.set i (⟨2,b0.attempt,(a0.deps.n:Int),b0.next⟩:BEnt)),a3,cs) ⟨(o0.dropAt 0 rfl),om,n0,(Nx.keep hN i0 rfl),(ents_open hE f0 i0 (by simp only [st0];first|rw [if_pos om]|rw [if_neg om]) rfl (by dsimp only;omega) rfl)⟩ ?_
  rintro ⟨j,B0,c1,A0⟩ ρ _ ⟨a1,hj,C0,E0,D0⟩
  have G0:=C0.le;have F0:=C0.len
  refine jCC 6 rfl<|CD ((j:Int)<(a0.deps.n:Int)) (fun e3=>jCO 7 rfl<|sAdd (i:Int) 1<|jOI 2 rfl<|(by rw [show j=a0.deps.l.length by omega] at D0;exact ⟨(i+1,ae,ke,B0,c1,A0),od,alB,a1,om,C0,E0,ents_done D0 f0⟩)) fun e3=>jCO 6 rfl<|sII (dl a0 (List.mem_of_getElem? f0)).deps (j:Int) fun g0 _ _ b1 f3=>?_
  rw [Int.toNat_natCast] at b1
  refine sMp a1 (f3.up 3 rfl) 0 (I g0)<|jOC 3 rfl ?_
  have K0:=asc_mem hA g0 (List.mem_of_getElem? b1)
  obtain ⟨c0,_,_,p0,_,_,_⟩:=OwnT.elem C0 g0
  obtain ⟨g3,u1,d1⟩:=E0.get p0
  have M0:=d1.le;have N0:=d1.len
  have v1:=Sat.openN (A:=[[(e0, .cells #[.slice ae nl ke,I 0] 172 (0,0))],c1]) g0.toNat u1 a1
  change Sat _ _ (g3::[(e0, .cells #[.slice ae nl ke,I 0] 172 (0,0))]::c1::(A0.eraseIdx g0.toNat).flatten::H::F) at v1
  have O0:c0.next.l.length<=4096:=nx_short D0 p0 om
  obtain ⟨h3,c5,d5,w1,x1,y1,i3⟩:=OwnT.elem C0 g0
  obtain rfl:c0=h3:=Option.some.inj (p0.symm.trans w1)
  exact drawF v1 [14,15,18] (fb 3 1 0 1<|fb 8 1 0 1<|fq 12 3 (x1.up 2 rfl)<|fn) [0,1,2,4,5,6,7,9,13,3,8,10,11,12,14,15,16,17,18] fun _ j3=>wV 9<|wL 0<|wL 1<|wI y1<|wV 1<|wL 2<|wO rfl<|sBK j3 #[I (i:Int)] 3 fun _ _ q0=>nilO ⟨⟨cI q0 2,cI q0 2, .inr ((x1.up 3 rfl).cell q0 (k:=3) rfl),trivial⟩,(wO rfl<|sApp (nb:=8) q0 d1 1 (RdT.blk (enc:=Go.E.encI) (sz:=1) (xs:=[(i:Int)]) fR 1 0 rfl rfl rfl om) underlying22 (i:=Tryz.t3) kr fR fun r0 s0 e1 _ k3 z1=>nZ z1 [2,2]<|wI y1<|wV 1<|wO rfl<|sStF z1 C0 i3 3 (g0).toNat 3 c0 (⟨c0.state,c0.attempt,c0.pending,⟨r0,(c0.next.n+1),s0,(c0.next.l++[(i:Int)])⟩⟩:BEnt) w1 (.slice r0 (c0.next.n+1) s0) [.slice r0 (c0.next.n+1) s0] sizeOf22 fun _ f1 l3 m3=>nA<|wN<|(by have n3:=(m3.dropAt 0 rfl);have a2:=Sat.shutN (d:=e1) (A:=[[(e0, .cells #[.slice ae nl ke,I 0] 172 (0,0))],f1]) g0.toNat u1 n3;change Sat _ _ ([(e0, .cells #[.slice ae nl ke,I 0] 172 (0,0))]::f1::(A0.set g0.toNat e1).flatten::H::F) at a2;exact jXO 3 rfl<|sAdd (j:Int) 1<|jOI 2 rfl<|⟨(j+1,(B0.set ((g0).toNat) (⟨c0.state,c0.attempt,c0.pending,⟨r0,(c0.next.n+1),s0,(c0.next.l++[(i:Int)])⟩⟩:BEnt)),f1,(A0.set g0.toNat e1)),od,alB,a2,om,l3,(E0.set k3),(ents_dep D0 f0 b1 hA p0 rfl rfl rfl rfl)⟩))⟩
 refine jCO 4 rfl<|sStF o0 n0 k0 2 i 0 (⟨2,b0.attempt,(a0.deps.n:Int),b0.next⟩:BEnt) (⟨1,b0.attempt,(a0.deps.n:Int),b0.next⟩:BEnt) t1 (I 1) [I 1] sizeOf3 fun _ o3 b2 c2=>?_
 rw [List.set_set] at b2
 refine gOC c2 11 [0] rfl<|loopF [68,69,7,6,39,37,38] (γ:=Nat×(List BEnt)×Chunk×(List Chunk)) (fun ⟨j,B0,c1,A0⟩ R=>⟨[(70,I (j:Int))],[(e0, .cells #[.slice ae nl ke,I 0] 172 (0,0))]::c1::A0.flatten::R,a0.deps.n-j,j<=a0.deps.n/\OwnT encBEnt 175 4 ae nl ke B0 c1/\Nx B0 A0/\B0.map BEnt.v=(List.range nl).map (entN l (i+1) ((l.map (·.deps.l)).take i++[a0.deps.l.take j]))⟩) (0,(es.set i (⟨1,b0.attempt,(a0.deps.n:Int),b0.next⟩:BEnt)),o3,cs) ⟨(c2.dropAt 0 rfl),om,b2,(Nx.keep hN i0 rfl),(ents_open hE f0 i0 (by simp only [st0];first|rw [if_pos om]|rw [if_neg om]) rfl (by dsimp only;omega) rfl)⟩ ?_
 rintro ⟨j,B0,c1,A0⟩ ρ _ ⟨g1,hj,C0,E0,D0⟩
 have G0:=C0.le;have F0:=C0.len
 refine jCC 6 rfl<|CD ((j:Int)<(a0.deps.n:Int)) (fun r3=>jCO 7 rfl<|sAdd (i:Int) 1<|jOI 2 rfl<|(by rw [show j=a0.deps.l.length by omega] at D0;exact ⟨(i+1,ae,ke,B0,c1,A0),od,alB,g1,om,C0,E0,ents_done D0 f0⟩)) fun r3=>jCO 6 rfl<|sII (dl a0 (List.mem_of_getElem? f0)).deps (j:Int) fun h0 _ _ h1 s3=>?_
 rw [Int.toNat_natCast] at h1
 refine sMp g1 (s3.up 3 rfl) 0 (I h0)<|jOC 3 rfl ?_
 have K0:=asc_mem hA h0 (List.mem_of_getElem? h1)
 obtain ⟨d0,_,_,t0,_,_,_⟩:=OwnT.elem C0 h0
 obtain ⟨u3,d2,i1⟩:=E0.get t0
 have M0:=i1.le;have N0:=i1.len
 have e2:=Sat.openN (A:=[[(e0, .cells #[.slice ae nl ke,I 0] 172 (0,0))],c1]) h0.toNat d2 g1
 change Sat _ _ (u3::[(e0, .cells #[.slice ae nl ke,I 0] 172 (0,0))]::c1::(A0.eraseIdx h0.toNat).flatten::H::F) at e2
 have O0:d0.next.l.length<=4096:=nx_short D0 t0 om
 obtain ⟨v3,m5,n5,f2,g2,h2,w3⟩:=OwnT.elem C0 h0
 obtain rfl:d0=v3:=Option.some.inj (t0.symm.trans f2)
 exact drawF e2 [14,15,18] (fb 3 1 0 1<|fb 8 1 0 1<|fq 12 3 (g2.up 2 rfl)<|fn) [0,1,2,4,5,6,7,9,13,3,8,10,11,12,14,15,16,17,18] fun _ x3=>wV 9<|wL 0<|wL 1<|wI h2<|wV 1<|wL 2<|wO rfl<|sBK x3 #[I (i:Int)] 3 fun _ _ u0=>nilO ⟨⟨cI u0 2,cI u0 2, .inr ((g2.up 3 rfl).cell u0 (k:=3) rfl),trivial⟩,(wO rfl<|sApp (nb:=8) u0 i1 1 (RdT.blk (enc:=Go.E.encI) (sz:=1) (xs:=[(i:Int)]) fR 1 0 rfl rfl rfl om) underlying22 (i:=Tryz.t3) kr fR fun v0 w0 j1 _ y3 i2=>nZ i2 [2,2]<|wI h2<|wV 1<|wO rfl<|sStF i2 C0 w3 3 (h0).toNat 3 d0 (⟨d0.state,d0.attempt,d0.pending,⟨v0,(d0.next.n+1),w0,(d0.next.l++[(i:Int)])⟩⟩:BEnt) f2 (.slice v0 (d0.next.n+1) w0) [.slice v0 (d0.next.n+1) w0] sizeOf22 fun _ k1 z3 a4=>nA<|wN<|(by have b4:=(a4.dropAt 0 rfl);have j2:=Sat.shutN (d:=j1) (A:=[[(e0, .cells #[.slice ae nl ke,I 0] 172 (0,0))],k1]) h0.toNat d2 b4;change Sat _ _ ([(e0, .cells #[.slice ae nl ke,I 0] 172 (0,0))]::k1::(A0.set h0.toNat j1).flatten::H::F) at j2;exact jXO 3 rfl<|sAdd (j:Int) 1<|jOI 2 rfl<|⟨(j+1,(B0.set ((h0).toNat) (⟨d0.state,d0.attempt,d0.pending,⟨v0,(d0.next.n+1),w0,(d0.next.l++[(i:Int)])⟩⟩:BEnt)),k1,(A0.set h0.toNat j1)),od,alB,j2,om,z3,(E0.set y3),(ents_dep D0 f0 h1 hA t0 rfl rfl rfl rfl)⟩))⟩
structure PW where
  phase:Int
  heldJob:Int
  heldTask:Int
  attempt:Int
  row:Int
  a:Nat
  d:Nat
instance:Inhabited PW:=⟨⟨0,0,0,0,0,0,0⟩⟩
def encPW (x:PW):List Value:=[.int .i64 x.phase, .int .i64 x.heldJob, .int .i64 x.heldTask, .int .i64 x.attempt, .int .i64 x.row, .pointer (some ⟨x.a,0,none⟩), .pointer (some ⟨x.d,0,none⟩)]
structure Core where
  p:Int
  h:Int
  t:Int
  a:Int
  r:Int
def PW.core (x:PW):Core:=⟨x.phase,x.heldJob,x.heldTask,x.attempt,x.row⟩
def Wkr.core (v:Wkr):Core:=⟨v.phase,v.heldJob,v.heldTask,v.attempt,v.row⟩
def ptrV (b:Nat):Value:= .pointer (some ⟨b,0,none⟩)
def canc (s:JS):Bool:=!s.running&&decide (doneOf s.B<((s.tasks.length:Nat):Int))
def JobP (b:Nat) (s:JS) (c:Chunk):Prop:=∃(ta:Option Addr) (tn tk:Nat) (tl:List Task) (bb:Nat) (T M:Chunk),
  c=[(b, .cells #[.slice ta tn tk, .int .i64 s.band, .pointer (some ⟨bb,0,none⟩), .bool (canc s)] 117 (0,0))]++(T++M)/\RdT encTask 9 [T] ta tn tk tl/\(∀z∈tl,Task.Ok [T] z)/\tl.map Task.v=s.tasks/\BoardR bb s.B M/\s.added=true/\(s.running=true->doneOf s.B<((s.tasks.length:Nat):Int))
def kvJ (jm:List (Int×Nat)):List (Int×Value):=jm.map fun x=>(x.1,ptrV x.2)
structure JobsP (jobs:List JS) (jm:List (Int×Nat)) (jcs:List Chunk):Prop where
  o:Obs JobP (jm.map (·.2)) (jm.map fun x=>jobs.getD x.1.toNat default) jcs
  nd:(jm.map (·.1)).Nodup
  k:∀i,i∈jm.map (·.1)↔0<=i/\i<64/\(jobs.getD i.toNat default).added=true
  l:jobs.length=64
theorem kv_get {jm:List (Int×Nat)} {n:Nat} {k:Int} {b:Nat} (hn:(jm.map (·.1)).Nodup) (h:jm[n]?=some (k,b)):iget (kvJ jm) k=some (ptrV b):=by
 induction jm generalizing n with
 |nil=>cases h
 |cons q jm ih=>
  rw [List.map_cons,List.nodup_cons] at hn
  cases n with
  |zero=>
   obtain rfl:q=(k,b):=by simpa using h
   simp [iget,kvJ]
  |succ n=>
   have h1:jm[n]?=some (k,b):=by simpa using h
   have h2:=ih hn.2 h1
   have h3:q.1≠k:=fun e=>hn.1 (by rw [e];exact List.mem_map.2 ⟨_,List.mem_of_getElem? h1,rfl⟩)
   unfold iget kvJ at*
   rw [List.map_cons,List.find?_cons]
   have h4:(q.1==k)=false:=by simpa using h3
   simp only [h4];exact h2
theorem kv_none {jm:List (Int×Nat)} {k:Int} (h:k∉jm.map (·.1)):iget (kvJ jm) k=none:=by
  unfold iget kvJ
  rw [List.find?_eq_none.2]
  · rfl
  · exact (by intro q hq;obtain ⟨x,hx,rfl⟩:=List.mem_map.1 hq;have:x.1≠k:=fun e=>h (List.mem_map.2 ⟨x,hx,e⟩);simpa using this)
theorem JobsP.get {jobs:List JS} {jm:List (Int×Nat)} {jcs:List Chunk} {k:Int} {j:JS} (h:JobsP jobs jm jcs) (hk:0<=k/\k<64) (hj:jobs[k.toNat]?=some j) (ha:j.added=true):
  ∃(n b:Nat) (c:Chunk),jm[n]?=some (k,b)/\jcs[n]?=some c/\JobP b j c/\iget (kvJ jm) k=some (ptrV b):=by
 have e:jobs.getD k.toNat default=j:=getD_some hj
 obtain ⟨x,hx,c0⟩:=List.mem_map.1 ((h.k k).2 ⟨hk.1,hk.2,by rw [e];exact ha⟩)
 obtain ⟨n,hn⟩:=List.getElem?_of_mem hx
 have hb:(jm.map (·.2))[n]?=some x.2:=by rw [List.getElem?_map,hn];rfl
 obtain ⟨s,c,hs,hc,hR⟩:=h.o.get hb
 rw [List.getElem?_map,hn] at hs
 obtain rfl:=Option.some.inj hs
 have b0:x=(k,x.2):=by rw [<-c0]
 exact ⟨n,x.2,c,by rw [hn,<-b0],hc,(by have a0:JobP x.2 (jobs.getD x.1.toNat default) c:=hR;rw [show x.1.toNat=k.toNat by rw [<-c0],e] at a0;exact a0),kv_get h.nd (n:=n) (by rw [hn,<-b0])⟩
theorem JobsP.no {jobs:List JS} {jm:List (Int×Nat)} {jcs:List Chunk} {k:Int} (h:JobsP jobs jm jcs) (hk:¬(0<=k/\k<64/\(jobs.getD k.toNat default).added=true)):iget (kvJ jm) k=none:=kv_none fun hm=>hk ((h.k k).1 hm)
theorem getD_set' {α:Type} {l:List α} {i k:Nat} {x d:α} (h:i<l.length):(l.set i x).getD k d=if i=k then x else l.getD k d:=by
  rw [List.getD_eq_getElem?_getD,List.getElem?_set,List.getD_eq_getElem?_getD]
  split
  · rfl
  · rfl
theorem JobsP.set {jobs:List JS} {jm:List (Int×Nat)} {jcs:List Chunk} {k:Int} {n b:Nat} {j2:JS} {c2:Chunk} (h:JobsP jobs jm jcs) (hk:0<=k/\k<64) (hn:jm[n]?=some (k,b)) (hR:JobP b j2 c2) (ha:j2.added=true):
  JobsP (jobs.set k.toNat j2) jm (jcs.set n c2):=by
 have hl:=h.l
 have hb:(jm.map (·.2))[n]?=some b:=by rw [List.getElem?_map,hn];rfl
 have a0:∀i,i∈jm.map (·.1)->0<=i/\i<64:=fun i hi=>⟨((h.k i).1 hi).1,((h.k i).1 hi).2.1⟩
 have e:(jm.map fun x=>(jobs.set k.toNat j2).getD x.1.toNat default)=(jm.map fun x=>jobs.getD x.1.toNat default).set n j2:=by
  apply List.ext_getElem?
  intro i
  rw [List.getElem?_map,List.getElem?_set,List.length_map]
  by_cases hi:n=i
  · exact (by subst hi;have b0:=(List.getElem?_eq_some_iff.1 hn).1;rw [if_pos rfl,if_pos b0,hn];simp only [Option.map_some];rw [getD_set' om,if_pos rfl])
  ·rw [if_neg hi,List.getElem?_map]
   cases hx:jm[i]? with
   |none=>rfl
   |some x=>
    simp only [Option.map_some]
    rw [getD_set' om,if_neg]
    intro q
    have c0:=a0 x.1 (List.mem_map.2 ⟨x,List.mem_of_getElem? hx,rfl⟩)
    have q2:k=x.1:=by omega
    have h1:(jm.map (·.1))[n]?=some k:=by rw [List.getElem?_map,hn];rfl
    have h2:(jm.map (·.1))[i]?=some k:=by rw [List.getElem?_map,hx,q2];rfl
    exact hi ((List.getElem?_inj ((List.getElem?_eq_some_iff.1 h1).1) h.nd).1 (h1.trans h2.symm))
 refine ⟨by rw [e];exact h.o.set hb hR,h.nd,?_,by rw [List.length_set];exact h.l⟩
 intro i
 rw [h.k i]
 constructor
 ·rintro ⟨h1,h2,h3⟩
  refine ⟨h1,h2,?_⟩
  rw [getD_set' om]
  split
  ·exact ha
  ·exact h3
 ·rintro ⟨h1,h2,h3⟩
  refine ⟨h1,h2,?_⟩
  rw [getD_set' om] at h3
  split at h3
  · exact (by rename_i q;have q2:k=i:=(by omega);have h4:k∈jm.map (·.1):=List.mem_map.2 ⟨_,List.mem_of_getElem? hn,rfl⟩;rw [<-q2];exact ((h.k k).1 h4).2.2)
  ·exact h3
theorem JobP.open {b:Nat} {s:JS} {c:Chunk} (h:JobP b s c):∃(ta:Option Addr) (tn tk:Nat) (tl:List Task) (bb:Nat) (T M:Chunk),
  c=[(b, .cells #[.slice ta tn tk, .int .i64 s.band, .pointer (some ⟨bb,0,none⟩), .bool (canc s)] 117 (0,0))]++(T++M)/\RdT encTask 9 [T] ta tn tk tl/\(∀z∈tl,Task.Ok [T] z)/\tl.map Task.v=s.tasks/\BoardR bb s.B M/\s.added=true/\(s.running=true->doneOf s.B<(s.tasks.length:Int)):=h
theorem JobP.mk {b:Nat} {s:JS} {ta:Option Addr} {tn tk:Nat} {tl:List Task} {bb:Nat} {T M:Chunk} {cn:Bool} (hT:RdT encTask 9 [T] ta tn tk tl) (hD:∀z∈tl,Task.Ok [T] z) (hV:tl.map Task.v=s.tasks) (hB:BoardR bb s.B M) (ha:s.added=true) (hr:s.running=true->doneOf s.B<(s.tasks.length:Int)) (hc:cn=canc s):
    JobP b s ([(b, .cells #[.slice ta tn tk, .int .i64 s.band, .pointer (some ⟨bb,0,none⟩), .bool cn] 117 (0,0))]++(T++M)):=by subst hc;exact ⟨_,_,_,_,_,_,_,rfl,hT,hD,hV,hB,ha,hr⟩
def preP (c:Cfg) (wb wo wn wk q m:Nat):List Value:=[.int .i64 c.workers, .int .i64 c.tileW, .int .i64 c.tileH, .int .i64 c.arena, .int .i64 c.deque, .int .i64 c.tasks, .int .i64 c.cells, .int .i64 c.jobs, .slice (some ⟨wb,wo,none⟩) wn wk, .pointer (some ⟨q,0,none⟩), .map (some m)]
def FarmP (p:Nat) (F:FS) (M:Chunk):Prop:=∃(wb wo wn wk q m:Nat) (xs:List PW) (jm:List (Int×Nat)) (Wc Qc Jc:Chunk) (acs dcs jcs:List Chunk),
  M=Tri p 83 (preP F.cfg wb wo wn wk q m) (([]:List Ref).flatMap encRef) (encStt F.st)++(Wc++(acs.flatten++(dcs.flatten++(Qc++(Jc++jcs.flatten)))))/\
  OwnT encPW 91 7 (some ⟨wb,wo,none⟩) wn wk xs Wc/\xs.map PW.core=F.ws.map Wkr.core/\Obs PaR (xs.map (·.a)) F.ar acs/\Obs DqP (xs.map (·.d)) F.dq dcs/\InjP q F.q Qc/\MapI m (kvJ jm) Jc/\JobsP F.jobs jm jcs
theorem core_at {xs:List PW} {ws:List Wkr} {k:Nat} {x:PW} (h:xs.map PW.core=ws.map Wkr.core) (hx:xs[k]?=some x):∃v,ws[k]?=some v/\x.phase=v.phase/\x.heldJob=v.heldJob/\x.heldTask=v.heldTask/\x.attempt=v.attempt/\x.row=v.row:=by
  have h1:(ws.map Wkr.core)[k]?=some x.core:=by rw [<-h,List.getElem?_map,hx];rfl
  rw [List.getElem?_map] at h1
  cases hv:ws[k]? with
  |none=>rw [hv] at h1;cases h1
  |some v=>
    rw [hv] at h1
    obtain ⟨e1,e2,e3,e4,e5⟩:=Core.mk.inj (Option.some.inj h1)
    exact ⟨v,rfl,e1.symm,e2.symm,e3.symm,e4.symm,e5.symm⟩
theorem core_set {xs:List PW} {ws:List Wkr} {k:Nat} {x':PW} {v':Wkr} (h:xs.map PW.core=ws.map Wkr.core) (e:x'.core=v'.core):(xs.set k x').map PW.core=(ws.set k v').map Wkr.core:=by
  rw [List.map_set,List.map_set,h,e]
theorem map_setA {xs:List PW} {k:Nat} {x x':PW} (hx:xs[k]?=some x) (e:x'.a=x.a):(xs.set k x').map (·.a)=xs.map (·.a):=by
  rw [List.map_set,e];exact set_same (by rw [List.getElem?_map,hx];rfl)
theorem map_setD {xs:List PW} {k:Nat} {x x':PW} (hx:xs[k]?=some x) (e:x'.d=x.d):(xs.set k x').map (·.d)=xs.map (·.d):=by
  rw [List.map_set,e];exact set_same (by rw [List.getElem?_map,hx];rfl)
theorem core_len {xs:List PW} {ws:List Wkr} (h:xs.map PW.core=ws.map Wkr.core):xs.length=ws.length:=by simpa using congrArg List.length h
theorem map_at' {α β:Type} {f:α->β} {l:List α} {i:Nat} {x:α} (h:l[i]?=some x):(l.map f)[i]?=some (f x):=by rw [List.getElem?_map,h];rfl
theorem canc_t {s:JS} (h:canc s=true):s.running=false:=by
  unfold canc at h;cases hr:s.running
  · rfl
  · rw [hr] at h;simp at h
theorem canc_f {s:JS} (h:¬canc s=true) (hlt:doneOf s.B<(s.tasks.length:Int)):s.running=true:=by
  unfold canc at h;cases hr:s.running
  · rw [hr,decide_eq_true hlt] at h;exact absurd rfl h
  · rfl
theorem canc_run {s:JS} (h:s.running=true):canc s=false:=by unfold canc;rw [h];rfl
theorem canc_done {s:JS} (h:doneOf s.B=(s.tasks.length:Int)):canc s=false:=by unfold canc;rw [decide_eq_false (by omega),Bool.and_false]
theorem run_eq {s:JS} (h:¬canc s=true) (hr:s.running=true->doneOf s.B<(s.tasks.length:Int)) (hd:s.B.deps.length=s.tasks.length):decide (doneOf s.B<(s.B.deps.length:Int))=s.running:=by
  rw [hd]
  cases e:s.running
  · by_cases h2:doneOf s.B<(s.tasks.length:Int)
    · rw [canc_f h h2] at e;cases e
    · exact decide_eq_false h2
  · exact decide_eq_true (hr e)
theorem some_addr {b o b' o':Nat} (h:(some ⟨b,o,none⟩:Option Addr)=some ⟨b',o',none⟩):b=b'/\o=o':=by cases h;exact ⟨rfl,rfl⟩
theorem p_holds {b off:Nat} {x:PW} {c:Chunk} {F0:List Chunk} (hp:PtR [c] b off (encPW x)) (hS:Sat W w (c::F0)):
  Calls prog 76 #[.pointer (some ⟨b,off,none⟩)] w fun e w'=>e= .returned (.bool (decide (x.phase≠0/\x.phase≠4)))/\Sat W w' (c::F0):=by
 exact callsK 15 func76 rfl<|jCO 10 rfl<|sMp hS (hp.up 0 rfl) 0 (I x.phase)<|pu2<|sN 8 x.phase 0 (fun a0=>jOR 10 rfl<|retT [.bool false]<|⟨rB ((decide_eq_false (p:=x.phase≠0/\x.phase≠4) om).symm),hS⟩) fun a0=>pu3<|gY<|sMp hS (hp.up 0 rfl) 0 (I x.phase)<|jOR 6 rfl<|retT [.bool ((x.phase:Int)!=4)]<|⟨rB (by rw [Bool.eq_iff_iff];simp only [decide_eq_true_eq,bne_iff_ne,ne_eq];omega),hS⟩
theorem p_rest {wb wo wn wk k:Nat} {xs:List PW} {x:PW} {ar:List AS} {Wc:Chunk} {acs F0:List Chunk} (hOw:OwnT encPW 91 7 (some ⟨wb,wo,none⟩) wn wk xs Wc) (hAs:Obs PaR (xs.map (·.a)) ar acs) (hx:xs[k]?=some x) (ph:Int) (hS:Sat W w (Wc::acs.flatten::F0)):
  Calls prog 65 #[.pointer (some ⟨wb,wo+k*7,none⟩),I ph] w fun e w'=>∃(Wc':Chunk) (acs':List Chunk),e= .returned (.tuple #[])/\OwnT encPW 91 7 (some ⟨wb,wo,none⟩) wn wk (xs.set k (⟨ph,0,0,0,0,x.a,x.d⟩:PW)) Wc'/\Obs PaR (xs.map (·.a)) (ar.set k (resetA (ar.getD k default))) acs'/\Sat W w' (Wc'::acs'.flatten::F0):=by
 have hp:=OwnT.ptr hOw rfl hx
 refine callsK 23 func65 rfl<|jCO 6 rfl<|sStF hS hOw rfl 0 k 0 x (⟨ph,x.heldJob,x.heldTask,x.attempt,x.row,x.a,x.d⟩:PW) hx (I ph) [I ph] sizeOf3 fun _ _ d0 j0=>jOO 8 rfl ?_
 have e0:=set_at (y:=(⟨ph,x.heldJob,x.heldTask,x.attempt,x.row,x.a,x.d⟩:PW)) hx
 have c1:=OwnT.ptr d0 rfl e0
 refine sStF j0 d0 rfl 0 k 1 (⟨ph,x.heldJob,x.heldTask,x.attempt,x.row,x.a,x.d⟩:PW) (⟨ph,0,0,x.attempt,x.row,x.a,x.d⟩:PW) e0 (.agg #[I 0,I 0]) [I 0,I 0] sizeOf61 fun _ _ a0 k0=>?_
 rw [List.set_set] at a0
 refine jOO 7 rfl ?_
 have f0:=set_at (y:=(⟨ph,0,0,x.attempt,x.row,x.a,x.d⟩:PW)) hx
 have f1:=OwnT.ptr a0 rfl f0
 refine sStF k0 a0 rfl 0 k 3 (⟨ph,0,0,x.attempt,x.row,x.a,x.d⟩:PW) (⟨ph,0,0,0,x.row,x.a,x.d⟩:PW) f0 (I 0) [I 0] sizeOf3 fun _ _ b0 l0=>?_
 rw [List.set_set] at b0
 refine jOO 7 rfl ?_
 have g0:=set_at (y:=(⟨ph,0,0,0,x.row,x.a,x.d⟩:PW)) hx
 have i1:=OwnT.ptr b0 rfl g0
 refine sStF l0 b0 rfl 0 k 4 (⟨ph,0,0,0,x.row,x.a,x.d⟩:PW) (⟨ph,0,0,0,0,x.a,x.d⟩:PW) g0 (I 0) [I 0] sizeOf3 fun _ _ c0 h0=>?_
 rw [List.set_set] at c0
 refine jOO 6 rfl<|sMp h0 ((OwnT.ptr c0 rfl (set_at (y:=(⟨ph,0,0,0,0,x.a,x.d⟩:PW)) hx)).up 0 rfl) 5 (.pointer (some ⟨x.a,0,none⟩)) ?_
 obtain ⟨l1,m1,o0,i0,p0⟩:=Obs.get hAs (map_at' hx)
 have q0:=(h0.pick 1 rfl)
 refine cZ (pa_reset p0 (Sat.flat1 (Sat.openN (A:=[]) k i0 q0))) ?_
 rintro _ _ ⟨s0,rfl,t0,u0⟩
 have v0:=u0.unflat1
 have w0:=(v0.picks [1,1])
 have x0:=Sat.shutN (d:=s0) (A:=[]) k i0 w0
 exact nilO<|ret0n rfl<|⟨_,_,rfl,c0,by rw [getD_some o0];exact (Obs.set hAs (map_at' hx) t0),(x0.pick 1 rfl)⟩
theorem p_running {b:Nat} {s:JS} {c:Chunk} {K:Int} {F0:List Chunk} (hJ:JobP b s c) (hBW:BWf s.B K) (hdl:s.B.deps.length=s.tasks.length) (hS:Sat W w (c::F0)):
  Calls prog 71 #[Pt b 0] w fun e w'=>e= .returned (.bool s.running)/\Sat W w' (c::F0):=by
 obtain ⟨ta,tn,tk,tl,bb,T,M,rfl,hT,hD,hV,hB,ha,hr⟩:=hJ.open
 have c0:Sat W _ ([(b, .cells #[.slice ta tn tk,I s.band,Pt bb 0, .bool (canc s)] 117 (0,0))]::T::M::F0):=Sat.perm hS (by simp)
 refine callsK 21 func71 rfl<|jCC 6 rfl<|bD ((canc s)=true) (fun a0=>drawF c0 [10,15] (fb 3 0 3 1<|fn) [0,1,2,3,4,5,6,7,8,11,12,13,9,14,10,15,16,17,18] fun _ b0=>wV 3<|wL 0<|wV 2<|wFix 8 _ false (congrArg Bool.not a0)<|wV 8<|wO rfl<|pu1<|nZ b0 [0]<|wO rfl<|pu1<|nZ b0 [0]<|wV 3<|wN<|jXR 2 rfl<|retT [.bool false]<|(by have f0:Sat W _ (([(b, .cells #[.slice ta tn tk,I s.band,Pt bb 0, .bool (canc s)] 117 (0,0))]++(T++M))::F0):=Sat.perm (show Sat W _ ([(b, .cells #[.slice ta tn tk,I s.band,Pt bb 0, .bool (canc s)] 117 (0,0))]::T::M::F0) from b0) (by simp);exact ⟨rB ((canc_t a0).symm),f0⟩)) fun a0=>drawF c0 [10,15] (fb 3 0 3 1<|fb 9 0 2 1<|fb 14 0 2 1<|fn) [0,1,2,3,4,5,6,7,8,11,12,13,9,14,10,15,16,17,18] fun _ g0=>wV 3<|wL 0<|wV 2<|wFix 8 _ true (congrArg Bool.not (Bool.eq_false_iff.2 a0))<|wV 6<|wL 1<|wL 2<|wO rfl<|gY ?_
 have h0:=(g0.pick 2 rfl)
 refine cZ (b_done hB hBW h0.flat1) ?_
 rintro _ _ ⟨rfl,i0⟩
 have d0:=i0.unflat1
 refine nZ d0 [1,1]<|wO rfl<|gY<|cZ (b_total hB hBW d0.flat1) ?_
 rintro _ _ ⟨rfl,j0⟩
 have e0:=j0.unflat1
 exact nZ e0 [1]<|wV 1<|wV 2<|wN<|jXR 2 rfl<|retT [.bool (decide ((doneOf s.B)<(s.B.deps.length:Int)))]<|(by have k0:=(e0.picks [2,2]);have l0:Sat W _ (([(b, .cells #[.slice ta tn tk,I s.band,Pt bb 0, .bool (canc s)] 117 (0,0))]++(T++M))::F0):=Sat.perm (show Sat W _ ([(b, .cells #[.slice ta tn tk,I s.band,Pt bb 0, .bool (canc s)] 117 (0,0))]::T::M::F0) from k0) (by simp);exact ⟨rB (run_eq a0 hr hdl),l0⟩)
theorem pf_worker {p:Nat} {F:FS} {M:Chunk} {F0:List Chunk} (hR:FarmP p F M) (x:Int) (hS:Sat W w (M::H::F0)):
  Calls prog 61 #[Pt p 0,I x] w fun e w'=>e= .returned (.bool (decide (0<=x/\x<(F.ws.length:Int))))/\Sat W w' (M::H::F0):=by
 obtain ⟨wb,wo,wn,wk,q,m,xs,jm,Wc,Qc,Jc,f0,g0,m0,rfl,e0,k0,h0,i0,hQ,hM,j0⟩:=hR
 have a0:Sat W _ ((Tri p 83 (preP F.cfg wb wo wn wk q m) (([]:List Ref).flatMap encRef) (encStt F.st))::Wc::f0.flatten::g0.flatten::Qc::Jc::m0.flatten::H::F0):=Sat.perm hS (by simp)
 have p0:=e0.ll;have n0:=core_len k0;have c0:=h0.1;have d0:=i0.1;rw [List.length_map] at c0 d0;have l0:=j0.l
 exact callsK 20 func61 rfl<|jCO 14 rfl<|SD 11 (x>=0) (fun b0=>jOR 12 rfl<|retT [.bool false]<|⟨rB ((decide_eq_false (p:=0<=x/\x<(F.ws.length:Int)) om).symm),(a0.merge7)⟩) fun b0=>pu4<|gY<|sMp a0 (ptr_up 0 rfl tri_pre) 8 (.slice (some ⟨wb,wo,none⟩) wn wk)<|jOR 7 rfl<|retT [.bool (decide (x<(wn:Int)))]<|⟨rB (by rw [Bool.eq_iff_iff];simp only [decide_eq_true_eq];omega),(a0.merge7)⟩
theorem p_empty {p q wb wo wn wk m:Nat} {c:Cfg} {mid post:List Value} {F0:List Chunk} (h0:0<wn/\wn<=9223372036854775807) (hS:Sat W w ((Tri p 83 (preP c wb wo wn wk q m) mid post)::F0)):
    Calls prog 50 #[.pointer (some ⟨p,0,none⟩)] w fun e w'=>e= .returned (.bool false)/\Sat W w' ((Tri p 83 (preP c wb wo wn wk q m) mid post)::F0):=by
  exact callsK 13 func50 rfl<|jCO 13 rfl<|gY<|sMp hS (ptr_up 0 rfl tri_pre) 8 (.slice (some ⟨wb,wo,none⟩) wn wk)<|jOR 7 rfl<|retT [.bool (((wn:Int):Int)==0)]<|⟨rB (by simp;omega),hS⟩
end Go.Proofs.YtkadmghedmodbaaGreat

namespace Go.Proofs.YtkadmghedmodbaaGreat
open Go Go.E Go.Proofs.Tryz
set_option linter.all false
set_option maxRecDepth 100000
set_option maxHeartbeats 2000000
variable {W w:World} {H:Chunk} {F:List Chunk}
theorem done_same {s:List Int} {k:Nat} {y:Int} (h:s.getD k 0≠4) (hy:y≠4):((s.set k y).filter fun x=>decide (x=4)).length=(s.filter fun x=>decide (x=4)).length:=by
  by_cases hk:k<s.length
  · exact (by have h1:=count_set (s:=s) (k:=k) (y:=y) hk;rw [if_neg h,if_neg hy] at h1;omega)
  · rw [List.set_eq_of_length_le (by omega)]
theorem start_done {B:BS} {i:Int}:doneOf (startB B i).1=doneOf B:=by
  unfold startB
  split
  · rename_i hi
    split
    · exact (by rename_i h2;unfold doneOf;dsimp only;rw [done_same (by rw [stAt_nat _ hi.1] at h2;omega) (by decide)])
    · rfl
  · rfl
theorem ret_done {B:BS} {i a:Int}:doneOf (retB B i a)=doneOf B:=by
  unfold retB
  split
  · exact (by rename_i h;have hz:=heldC_zero h;unfold doneOf;dsimp only;rw [done_same (by have:=hz.2.1;rw [stAt_nat _ hz.1.1] at this;omega) (by decide)])
  · rfl
def seqL (n:Nat) (c:Int):List Int:=(List.range n).map fun i=>choiceI ((n:Nat):Int) c ((i:Nat):Int)
theorem seq_len {n:Nat} {c:Int}:(seqL n c).length=n:=by unfold seqL;simp
theorem seq_at {n i:Nat} {c x:Int} (h:(seqL n c)[i]?=some x):x=choiceI (n:Int) c (i:Int):=by
  unfold seqL at h
  rw [List.getElem?_map] at h
  cases hr:(List.range n)[i]? with
  |none=>rw [hr] at h;cases h
  |some y=>
    rw [hr] at h
    have hy:y=i:=(by obtain ⟨h1,h2⟩:=List.getElem?_eq_some_iff.1 hr;rw [List.getElem_range] at h2;exact h2.symm)
    subst hy;exact (Option.some.inj h).symm
theorem seq_step {n i:Nat} {c v:Int} {zs:List Int} (hz:zs=(seqL n c).take i++List.replicate (n-i) 0) (hi:i<n) (hv:v=choiceI (n:Int) c (i:Int)):zs.set i v=(seqL n c).take (i+1)++List.replicate (n-(i+1)) 0:=by
 have hl:((seqL n c).take i).length=i:=by rw [List.length_take,seq_len];omega
 have hx:(seqL n c)[i]?=some v:=(by unfold seqL;rw [List.getElem?_map,List.getElem?_eq_getElem (by simpa using hi),List.getElem_range,hv];rfl)
 rw [hz,List.set_append_right _ _ om,hl,Nat.sub_self,take_succ_at hx,List.append_assoc]
 obtain ⟨m,hm⟩:∃m,n-i=m+1:=⟨n-i-1,om⟩
 rw [hm,show n-(i+1)=m by omega,List.replicate_succ,List.set_cons_zero];rfl
theorem busy_at {F:FS} {x:Int} {v:Wkr} {j:JS} (hv:F.ws[x.toNat]?=some v) (hh:Holds v) (hj:F.jobs[v.heldJob.toNat]?=some j):busyW F (wAt F x)=j.running:=by
  unfold busyW wAt jobAt;rw [getD_some hv,getD_some hj,decide_eq_true (show v.phase=1\/v.phase=2\/v.phase=3 from hh),Bool.true_and]
theorem busy_not {F:FS} {x:Int} {v:Wkr} (hv:F.ws[x.toNat]?=some v) (hh:¬Holds v):busyW F (wAt F x)=false:=by
  unfold busyW wAt;rw [getD_some hv,decide_eq_false (show ¬(v.phase=1\/v.phase=2\/v.phase=3) from hh),Bool.false_and]
theorem pf_start {p:Nat} {F:FS} {M:Chunk} {F0:List Chunk} (hR:FarmP p F M) {j:JS} {K:Int} (x:Int) (r:Ref) (hx:0<=x/\x<F.ws.length) (hr:0<=r.job/\r.job<64) (hj:F.jobs[r.job.toNat]?=some j) (ha:j.added=true) (hBW:BWf j.B K) (hst:0<=F.st.starts/\F.st.starts<4611686018427387904) (hS:Sat W w (M::H::F0)):
  Calls prog 126 #[Pt p 0,I x, .agg #[I r.job,I r.task]] w fun e w'=>∃M':Chunk,e= .returned (.tuple #[])/\FarmP p (takeF F x r) M'/\Sat W w' (M'::H::F0):=by
 obtain ⟨wb,wo,wn,wk,q,m,xs,jm,Wc,Qc,Jc,L0,M0,O0,rfl,D0,H0,J0,K0,hQ,hM,E0⟩:=hR
 have v0:Sat W _ ((Tri p 83 (preP F.cfg wb wo wn wk q m) (([]:List Ref).flatMap encRef) (encStt F.st))::Wc::L0.flatten::M0.flatten::Qc::Jc::O0.flatten::H::F0):=Sat.perm hS (by simp)
 have R0:=D0.ll;have P0:=core_len H0;have G0:=J0.1;have I0:=K0.1;rw [List.length_map] at G0 I0;have N0:=E0.l
 obtain ⟨j0,e0,y1,w0,k0,x0,y0⟩:=JobsP.get E0 (k:=r.job) ⟨om,om⟩ hj ha
 obtain ⟨z0,a1,b1,z1,f0,c1,a2,rfl,g0,d1,l0,e1,_,f1⟩:=x0.open
 have g1:=(v0.pick 6 rfl)
 have h1:=Sat.openN (A:=[]) j0 k0 g1
 have i1:=h1.split3
 have C0:=g0.ll;have A0:=congrArg List.length l0;rw [List.length_map] at A0
 refine callsK 54 func126 rfl<|jCO 2 rfl<|sBx i1 [I r.job,I r.task] fun m0 _ c0=>jOC 3 rfl<|drawE [6,12] [(3,⟨p,10,none⟩, .map (some m)),(5,⟨m0,0,none⟩,I r.job),(11,⟨m0,1,none⟩,I r.task),(9,⟨e0,2,none⟩,Pt f0 0)] [(true,[0,1,2,4,10]),(true,[3]),(true,[5]),(true,[11]),(false,[6]),(true,[7,8]),(true,[9]),(false,[12]),(true,[13]),(true,[14]),(true,[15]),(true,[16,17])] rfl kr ⟨.inr (cell_up c0 5 rfl (k:=10) tri_pre rfl),cI c0 0,cI c0 0,cI c0 1,trivial⟩ ?_
 have d0:=c0.drew
 refine wU [0,1,2,4,10]<|wLd (.map (some m)) 0 isAgg80<|wLd (I r.job) 1 isAgg3<|wLd (I r.task) 2 isAgg3<|wO rfl<|stepY (Pt e0 0) rfl rfl (Y_iget (k:=r.job) d0 10 hM (by rw [y0];rfl) runUnderlying80 runUnderlying3 zeroValue110)<|nilO ⟨⟨dI,dI,cI d0 0,cI d0 1,trivial⟩,?_⟩
 refine wU [7,8]<|wLd (Pt f0 0) 3 isAgg111<|wO rfl ?_
 have j1:=(d0.pick 3 rfl)
 refine cZ (b_start e1 hBW r.task j1.flat1) ?_
 rintro _ _ ⟨k1,rfl,l1,m1⟩
 have n0:=m1.unflat1
 refine nilO ⟨dA,?_⟩
 refine wU [13]<|wU [14]<|wU [15]<|wU [16,17]<|wN<|jXO 6 rfl<|sMp n0 (ptr_up 5 rfl tri_pre) 8 (.slice (some ⟨wb,wo,none⟩) wn wk)<|pu1<|sIO D0 x (x).toNat fun a0 _ _ b0 _ n1=>?_
 obtain ⟨rfl,rfl⟩:=some_addr n1
 obtain ⟨g2,h2,i2,k2,l2,m2,n2⟩:=core_at H0 b0
 refine jOO 8 rfl<|sStF n0 D0 rfl 6 (x).toNat 0 a0 (⟨1,a0.heldJob,a0.heldTask,a0.attempt,a0.row,a0.a,a0.d⟩:PW) b0 (I 1) [I 1] sizeOf3 fun _ _ o0 p0=>gOO p0 8 [201] rfl ?_
 have q0:=set_at (y:=(⟨1,a0.heldJob,a0.heldTask,a0.attempt,a0.row,a0.a,a0.d⟩:PW)) b0
 have r2:=OwnT.ptr o0 rfl q0
 refine sStF p0 o0 rfl 6 (x).toNat 1 (⟨1,a0.heldJob,a0.heldTask,a0.attempt,a0.row,a0.a,a0.d⟩:PW) (⟨1,r.job,r.task,a0.attempt,a0.row,a0.a,a0.d⟩:PW) q0 (.agg #[I r.job,I r.task]) [I r.job,I r.task] sizeOf61 fun _ _ h0 o1=>?_
 rw [List.set_set] at h0
 refine jOO 8 rfl ?_
 have r0:=set_at (y:=(⟨1,r.job,r.task,a0.attempt,a0.row,a0.a,a0.d⟩:PW)) b0
 have u2:=OwnT.ptr h0 rfl r0
 refine sStF o1 h0 rfl 6 (x).toNat 3 (⟨1,r.job,r.task,a0.attempt,a0.row,a0.a,a0.d⟩:PW) (⟨1,r.job,r.task,(startB j.B r.task).2.1,a0.row,a0.a,a0.d⟩:PW) r0 (I ((startB j.B r.task).2.1)) [I ((startB j.B r.task).2.1)] sizeOf3 fun _ _ i0 q1=>?_
 rw [List.set_set] at i0
 refine jOO 7 rfl ?_
 have s0:=set_at (y:=(⟨1,r.job,r.task,(startB j.B r.task).2.1,a0.row,a0.a,a0.d⟩:PW)) b0
 have x2:=OwnT.ptr i0 rfl s0
 refine sStF q1 i0 rfl 6 (x).toNat 4 (⟨1,r.job,r.task,(startB j.B r.task).2.1,a0.row,a0.a,a0.d⟩:PW) (⟨1,r.job,r.task,(startB j.B r.task).2.1,0,a0.a,a0.d⟩:PW) s0 (I 0) [I 0] sizeOf3 fun _ _ t0 u0=>?_
 rw [List.set_set] at t0
 refine jOO 7 rfl<|sMp u0 (ptr_up 5 rfl (tri_post (k:=11) (tri_len (sz:=2) (m:=11) fR (rfl:([]:List Ref).length=0)))) 0 (I F.st.starts)<|sAdd F.st.starts 1<|pu3<|sTpost u0 5 11 0 rfl (I (F.st.starts+1)) [I (F.st.starts+1)] [I (F.st.starts+1),I F.st.commits,I F.st.drops,I F.st.crashes,I F.st.steals,I F.st.helps,I F.st.spills,I F.st.queued,I F.st.held,I F.st.cells] (tri_len (sz:=2) (m:=11) fR (rfl:([]:List Ref).length=0)) sizeOf3 fun _ r1=>nilO<|ret0n rfl ?_
 have s1:=(r1.picks [4,1,4,4])
 have t1:=s1.merge3
 have u1:=Sat.shutN (d:=([(e0, .cells #[.slice z0 a1 b1,I j.band,Pt f0 0, .bool (canc j)] 117 (0,0))]++(c1++k1))) (A:=[]) j0 k0 t1
 have v1:=JobsP.set E0 (k:=r.job) (j2:={j with B:=(startB j.B r.task).1}) ⟨om,om⟩ w0 (JobP.mk (s:={j with B:=(startB j.B r.task).1}) (cn:=(canc j)) g0 d1 l0 l1 ha (fun h=>by rw [show ({j with B:=(startB j.B r.task).1}:JS).B=(startB j.B r.task).1 from rfl,start_done];exact f1 h) (by unfold canc;dsimp only;rw [start_done])) ha
 have w1:=((u1.picks [7,7,7,7,7,7]).dropAt 7 rfl)
 have x1:=(w1.merge7)
 have he:takeF F x r=(⟨F.cfg,(F.ws.set x.toNat ⟨1,r.job,r.task,(startB j.B r.task).2.1,0,0,(F.ar.getD x.toNat default).high⟩),F.ar,F.dq,F.q,(F.jobs.set r.job.toNat ({j with B:=(startB j.B r.task).1})),(⟨(F.st.starts+1),F.st.commits,F.st.drops,F.st.crashes,F.st.steals,F.st.helps,F.st.spills,F.st.queued,F.st.held,F.st.cells⟩:Stt)⟩:FS):=by unfold takeF jobAt;rw [getD_some hj]
 exact ⟨_,rfl,by rw [he];exact ⟨_,_,_,_,_,_,_,_,_,_,_,_,_,_,rfl,t0,(core_set H0 rfl),(by rw [map_setA (x':=(⟨1,r.job,r.task,(startB j.B r.task).2.1,0,a0.a,a0.d⟩:PW)) b0 rfl];exact J0),(by rw [map_setD (x':=(⟨1,r.job,r.task,(startB j.B r.task).2.1,0,a0.a,a0.d⟩:PW)) b0 rfl];exact K0),hQ,hM,v1⟩,x1⟩
theorem pf_drop {p:Nat} {F:FS} {M:Chunk} {F0:List Chunk} (hR:FarmP p F M) {v0:Wkr} (x:Int) (hx:0<=x/\x<F.ws.length) (hv0:F.ws[x.toNat]?=some v0) (hst:0<=F.st.drops/\F.st.drops<4611686018427387904) (hS:Sat W w (M::H::F0)):
  Calls prog 77 #[Pt p 0,I x] w fun e w'=>∃M':Chunk,e= .returned (.agg (encEvt ⟨9,x,0,0,v0.heldJob,v0.heldTask,0⟩).toArray)/\FarmP p (dropF F x) M'/\Sat W w' (M'::H::F0):=by
 obtain ⟨wb,wo,wn,wk,q,m,xs,jm,Wc,Qc,Jc,H0,I0,K0,rfl,z0,B0,D0,E0,hQ,hM,G0⟩:=hR
 have i0:Sat W _ ((Tri p 83 (preP F.cfg wb wo wn wk q m) (([]:List Ref).flatMap encRef) (encStt F.st))::Wc::H0.flatten::I0.flatten::Qc::Jc::K0.flatten::H::F0):=Sat.perm hS (by simp)
 have N0:=z0.ll;have L0:=core_len B0;have A0:=D0.1;have C0:=E0.1;rw [List.length_map] at A0 C0;have J0:=G0.l
 refine callsK 31 func77 rfl<|jCO 2 rfl<|sAlloc i0 zeroValue63 fun _ _ c0=>jOO 7 rfl<|sMp c0 (ptr_up 1 rfl tri_pre) 8 (.slice (some ⟨wb,wo,none⟩) wn wk)<|pu1<|sIO z0 x (x).toNat fun a0 _ _ b0 j0 k0=>?_
 obtain ⟨rfl,rfl⟩:=some_addr k0
 obtain ⟨l0,m0,n0,d0,e0,o0,p0⟩:=core_at B0 b0
 have y0:l0=v0:=Option.some.inj (m0.symm.trans hv0);rw [y0] at n0 d0 e0 o0 p0
 refine jOO 9 rfl<|sMA c0 (j0.up 2 rfl) 1 [I a0.heldJob,I a0.heldTask]<|pu1<|sAlloc c0 zeroValue63 fun _ _ q0=>sTk q0 0 rfl [I 9,I x,I 0,I 0,I a0.heldJob,I a0.heldTask,I 0] fun _ f0=>jOO 8 rfl<|sMp f0 (ptr_up 2 rfl (tri_post (k:=11) (tri_len (sz:=2) (m:=11) fR (rfl:([]:List Ref).length=0)))) 2 (I F.st.drops)<|sAdd F.st.drops 1<|pu3<|sTpost f0 2 11 2 rfl (I (F.st.drops+1)) [I (F.st.drops+1)] [I F.st.starts,I F.st.commits,I (F.st.drops+1),I F.st.crashes,I F.st.steals,I F.st.helps,I F.st.spills,I F.st.queued,I F.st.held,I F.st.cells] (tri_len (sz:=2) (m:=11) fR (rfl:([]:List Ref).length=0)) sizeOf3 fun _ r0=>jOO 5 rfl ?_
 have s0:=(r0.picks [4,4])
 refine cZ (p_rest z0 D0 b0 0 s0) ?_
 rintro _ _ ⟨_,_,rfl,t0,u0,g0⟩
 refine gOO g0 5 [702] rfl<|sTk g0 3 rfl [I 9,I x,I 0,I 0,I a0.heldJob,I a0.heldTask,I 0] fun _ h0=>jOR 3 rfl<|retN (vs:=[.agg #[I 9,I x,I 0,I 0,I a0.heldJob,I a0.heldTask,I 0]]) rfl (.cons (.cell _ _ _ _ kr (lvA h0 3 0 [I 9,I x,I 0,I 0,I a0.heldJob,I a0.heldTask,I 0] (isAgg63 _) (sizeOf63 _) rfl rfl rfl)) .nil) ?_
 have w0:=((h0.pick 4 rfl).drops [3,3])
 have x0:=(w0.merge7)
 have he:dropF F x=(⟨F.cfg,(F.ws.set x.toNat ⟨0,0,0,0,0,0,(F.ar.getD x.toNat default).high⟩),(F.ar.set (x).toNat (resetA (F.ar.getD (x).toNat default))),F.dq,F.q,F.jobs,(⟨F.st.starts,F.st.commits,(F.st.drops+1),F.st.crashes,F.st.steals,F.st.helps,F.st.spills,F.st.queued,F.st.held,F.st.cells⟩:Stt)⟩:FS):=by unfold dropF clearF arAt;rfl
 exact ⟨_,by rw [d0,e0];rfl,by rw [he];exact ⟨_,_,_,_,_,_,_,_,_,_,_,_,_,_,rfl,t0,(core_set B0 rfl),(by rw [map_setA (x':=(⟨0,0,0,0,0,a0.a,a0.d⟩:PW)) b0 rfl];exact u0),(by rw [map_setD (x':=(⟨0,0,0,0,0,a0.a,a0.d⟩:PW)) b0 rfl];exact E0),hQ,hM,G0⟩,x0⟩
theorem pf_seq {p:Nat} {F:FS} {M:Chunk} {F0:List Chunk} (hR:FarmP p F M) (c:Int) (hn:1<=F.ws.length/\F.ws.length<=64) (hS:Sat W w (M::H::F0)):
  Calls prog 80 #[Pt p 0,I c] w fun e w'=>∃(az:Option Addr) (nz kz:Nat) (Z:Chunk),e= .returned (.slice az nz kz)/\OwnT Go.E.encI 3 1 az nz kz (seqL F.ws.length c) Z/\Sat W w' (Z::M::H::F0):=by
 obtain ⟨wb,wo,wn,wk,q,m,xs,jm,Wc,Qc,Jc,M0,N0,T0,rfl,L0,R0,O0,P0,hQ,hM,Q0⟩:=hR
 have a0:Sat W _ ((Tri p 83 (preP F.cfg wb wo wn wk q m) (([]:List Ref).flatMap encRef) (encStt F.st))::Wc::M0.flatten::N0.flatten::Qc::Jc::T0.flatten::H::F0):=Sat.perm hS (by simp)
 have Y0:=L0.ll;have U0:=core_len R0;have H0:=O0.1;have I0:=P0.1;rw [List.length_map] at H0 I0;have S0:=Q0.l
 have V0:-(wn:Int)<c.tmod wn:=Int.lt_tmod_of_pos _ om;have W0:c.tmod wn<(wn:Int):=Int.tmod_lt_of_pos _ om
 refine callsK 39 func80 rfl<|jCO 10 rfl<|sMp a0 (ptr_up 0 rfl tri_pre) 8 (.slice (some ⟨wb,wo,none⟩) wn wk)<|jOO 8 rfl<|sRem c (wn:Int)<|jOC 10 rfl<|CD ((c.tmod (wn:Int))<0) (fun d0=>jCO 5 rfl<|sMake (kl:= .i64) (kc:= .i64) (enc:=Go.E.encI) (sz:=1) (nb:=8) a0 0 wn (wn:Int) (rfl:(wn:Int)=(wn:Int)) underlying22 (i:=Tryz.t3) kr fR fun e0 f0 _ g0 h0=>jOC 12 rfl<|loopF [5,6,25] (γ:=Nat×(List Int)×SO) (fun ⟨i,zs,x0,B0,A0,C0⟩ R=>⟨[(26,I (i:Int)),(7, .slice x0 B0 A0)],C0::R,wn-i,i<=wn/\(zs=(seqL wn c).take i++List.replicate (wn-i) 0)/\(zs.length=wn)/\OwnT Go.E.encI 3 1 x0 B0 A0 zs C0⟩) (0,(List.replicate wn 0),(At e0 0),wn,wn,f0) ⟨h0,om,(by simp),(by simp),g0⟩<|(by rintro ⟨i,zs,x0,B0,A0,C0⟩ ρ _ ⟨b0,hi,hz,K0,k0⟩;have G0:=k0.len;have E0:=k0.le;exact jCC 6 rfl<|CD ((i:Int)<(wn:Int)) (fun i0=>jCR 12 rfl<|retT [.slice x0 B0 A0]<|(by have J0:zs=seqL F.ws.length c:=(by rw [hz,List.take_of_length_le (by rw [seq_len];omega),show wn-i=0 by omega,show F.ws.length=wn by omega];simp);have D0:=k0;rw [J0] at D0;have j0:=(b0.picks [7,7,7,7,7,7,7]);exact ⟨_,_,_,_,rfl,D0,((j0.merge7).pick 1 rfl)⟩)) fun i0=>jCO 15 rfl<|sAdd (c.tmod (wn:Int)) (i:Int)<|pu1<|sRem ((c.tmod (wn:Int))+(i:Int)) (wn:Int)<|sIO k0 (i:Int) i fun l0 _ _ m0 _ n0=>sStF b0 k0 n0 0 i 0 l0 (((c.tmod (wn:Int))+(i:Int)).tmod (wn:Int)) m0 (I (((c.tmod (wn:Int))+(i:Int)).tmod (wn:Int))) [I (((c.tmod (wn:Int))+(i:Int)).tmod (wn:Int))] sizeOf3 fun _ o0 p0 q0=>jOO 4 rfl<|sAdd (i:Int) 1<|jOI 2 rfl<|⟨(i+1,(zs.set i (((c.tmod (wn:Int))+(i:Int)).tmod (wn:Int))),x0,B0,A0,o0),od,alB,q0,om,(seq_step hz om (by unfold choiceI;first|rw [if_pos om]|rw [if_neg om])),(by rw [List.length_set];exact K0),p0⟩)) fun d0=>?_
 refine jCO 3 rfl<|sAdd (c.tmod (wn:Int)) (wn:Int)<|jOO 6 rfl<|sMake (kl:= .i64) (kc:= .i64) (enc:=Go.E.encI) (sz:=1) (nb:=8) a0 0 wn (wn:Int) (rfl:(wn:Int)=(wn:Int)) underlying22 (i:=Tryz.t3) kr fR fun r0 s0 _ t0 u0=>jOC 12 rfl<|loopF [5,6,25] (γ:=Nat×(List Int)×SO) (fun ⟨i,zs,x0,B0,A0,C0⟩ R=>⟨[(26,I (i:Int)),(7, .slice x0 B0 A0)],C0::R,wn-i,i<=wn/\(zs=(seqL wn c).take i++List.replicate (wn-i) 0)/\(zs.length=wn)/\OwnT Go.E.encI 3 1 x0 B0 A0 zs C0⟩) (0,(List.replicate wn 0),(At r0 0),wn,wn,s0) ⟨u0,om,(by simp),(by simp),t0⟩ ?_
 rintro ⟨i,zs,x0,B0,A0,C0⟩ ρ _ ⟨c0,hi,hz,K0,k0⟩
 have G0:=k0.len;have E0:=k0.le
 exact jCC 6 rfl<|CD ((i:Int)<(wn:Int)) (fun v0=>jCR 12 rfl<|retT [.slice x0 B0 A0]<|(by have J0:zs=seqL F.ws.length c:=(by rw [hz,List.take_of_length_le (by rw [seq_len];omega),show wn-i=0 by omega,show F.ws.length=wn by omega];simp);have D0:=k0;rw [J0] at D0;have w0:=(c0.picks [7,7,7,7,7,7,7]);exact ⟨_,_,_,_,rfl,D0,((w0.merge7).pick 1 rfl)⟩)) fun v0=>jCO 15 rfl<|sAdd ((c.tmod (wn:Int))+(wn:Int)) (i:Int)<|pu1<|sRem (((c.tmod (wn:Int))+(wn:Int))+(i:Int)) (wn:Int)<|sIO k0 (i:Int) i fun y0 _ _ z0 _ a1=>sStF c0 k0 a1 0 i 0 y0 ((((c.tmod (wn:Int))+(wn:Int))+(i:Int)).tmod (wn:Int)) z0 (I ((((c.tmod (wn:Int))+(wn:Int))+(i:Int)).tmod (wn:Int))) [I ((((c.tmod (wn:Int))+(wn:Int))+(i:Int)).tmod (wn:Int))] sizeOf3 fun _ b1 c1 d1=>jOO 4 rfl<|sAdd (i:Int) 1<|jOI 2 rfl<|⟨(i+1,(zs.set i ((((c.tmod (wn:Int))+(wn:Int))+(i:Int)).tmod (wn:Int))),x0,B0,A0,b1),od,alB,d1,om,(seq_step hz om (by unfold choiceI;first|rw [if_pos om]|rw [if_neg om])),(by rw [List.length_set];exact K0),c1⟩
theorem pf_busy_h {p:Nat} {F:FS} {M:Chunk} {F0:List Chunk} (hR:FarmP p F M) {K:Int} (hF:FI F K) {v0:Wkr} (x:Int) (hx:0<=x/\x<F.ws.length) (hv0:F.ws[x.toNat]?=some v0) (hh:Holds v0) (hS:Sat W w (M::H::F0)):
  Calls prog 62 #[Pt p 0,I x] w fun e w'=>e= .returned (.bool (busyW F (wAt F x)))/\Sat W w' (M::H::F0):=by
 obtain ⟨wb,wo,wn,wk,q,m,xs,jm,Wc,Qc,Jc,N0,O0,T0,rfl,E0,K0,P0,Q0,hQ,hM,J0⟩:=hR
 have m0:Sat W _ ((Tri p 83 (preP F.cfg wb wo wn wk q m) (([]:List Ref).flatMap encRef) (encStt F.st))::Wc::N0.flatten::O0.flatten::Qc::Jc::T0.flatten::H::F0):=Sat.perm hS (by simp)
 have A1:=E0.ll;have W0:=core_len K0;have G0:=P0.1;have H0:=Q0.1;rw [List.length_map] at G0 H0;have S0:=J0.l
 obtain ⟨j,hj,ha,hz⟩:=hF.h.h _ _ hv0 hh;have L0:=hF.fw.j j (List.mem_of_getElem? hj);obtain ⟨I0,R0,U0,V0⟩:=L0.b ha;have X0:=L0.n;have M0:=hF.fw.w v0 (List.mem_of_getElem? hv0);have Y0:=M0.h;have v1:=M0.r;have Z0:=held_lt I0 hz;have o1:v0.phase=1\/v0.phase=2\/v0.phase=3:=hh
 obtain ⟨g0,h0,w1,x1,e0,n0,o0⟩:=JobsP.get J0 (k:=v0.heldJob) ⟨om,om⟩ hj ha
 obtain ⟨p0,q0,r0,y1,s0,t0,u0,rfl,f0,w0,i0,x0,_,y0⟩:=n0.open
 have z0:=(m0.pick 6 rfl)
 have a1:=Sat.openN (A:=[]) g0 e0 z0
 have b0:=a1.split3
 have D0:=f0.ll;have A0:=congrArg List.length i0;rw [List.length_map] at A0
 refine callsK 27 func62 rfl<|jCO 10 rfl<|sMp b0 (ptr_up 4 rfl tri_pre) 8 (.slice (some ⟨wb,wo,none⟩) wn wk)<|pu1<|sIO E0 x (x).toNat fun a0 _ _ b1 c0 c1=>?_
 obtain ⟨rfl,rfl⟩:=some_addr c1
 obtain ⟨d1,e1,f1,j0,g1,h1,i1⟩:=core_at K0 b1
 have B0:d1=v0:=Option.some.inj (e1.symm.trans hv0);rw [B0] at f1 j0 g1 h1 i1
 refine jOC 4 rfl<|bC (a0.phase≠0/\a0.phase≠4) (fun k0=>drawF b0 [1,12,13] (fn) [0,1,2,3,4,5,7,8,9,10,6,11,12,13,14,15] fun _ j1=>wV 1<|wO rfl<|(by have k1:=(j1.pick 5 rfl);refine cZ (p_holds (x:=a0) c0 k1) ?_;rintro _ _ ⟨rfl,_⟩;exact nA<|wV 1<|wFix 14 _ false (decide_eq_false k0)<|wV 9<|wO rfl<|pu1<|nA<|wO rfl<|pu1<|nA<|wV 2<|wN<|jXR 2 rfl<|retT [.bool false]<|(by omega))) fun k0=>?_
 refine drawE [1,12,13] [(6,⟨p,10,none⟩, .map (some m)),(11,⟨wb,wo+(x).toNat*7+1+0,none⟩,I a0.heldJob)] [(true,[0]),(false,[1]),(true,[2]),(true,[3,4,5,7,8,9,10]),(true,[6]),(true,[11]),(false,[12]),(false,[13]),(true,[14,15])] rfl kr ⟨.inr (cell_up b0 4 rfl (k:=10) tri_pre rfl), .inr ((c0.up 5 rfl).cell b0 (k:=1) rfl),trivial⟩ ?_
 have l1:=b0.drew
 refine wU [0]<|wO rfl ?_
 have m1:=(l1.pick 5 rfl)
 refine cZ (p_holds (x:=a0) c0 m1) ?_
 rintro _ _ ⟨rfl,d0⟩
 refine nilO ⟨⟨.inr (cell_up d0 5 rfl (k:=10) tri_pre rfl), .inr ((c0.up 0 rfl).cell d0 (k:=1) rfl),trivial⟩,?_⟩
 refine wU [2]<|wFix 14 _ true (decide_eq_true k0)<|wU [3,4,5,7,8,9,10]<|wLd (.map (some m)) 0 isAgg80<|wLd (I a0.heldJob) 1 isAgg3<|wO rfl<|gY<|stepY (Pt h0 0) rfl rfl (Y_iget (k:=a0.heldJob) d0 9 hM (by rw [j0,o0];rfl) runUnderlying80 runUnderlying3 zeroValue110)<|nilO ⟨dA,?_⟩
 refine wO rfl<|gY ?_
 have n1:=(d0.picks [3,3,3])
 refine cZ (p_running (s:=j) (JobP.mk (s:=j) f0 w0 i0 x0 ha y0 rfl) I0 R0 n1.merge3) ?_
 rintro _ _ ⟨rfl,q1⟩
 have r1:=q1.split3
 exact nilO ⟨dA,(wU [14,15]<|wN<|jXR 2 rfl<|retT [.bool j.running]<|(by have s1:=(r1.picks [4,3,3,3]);have t1:=s1.merge3;have l0:=Sat.shutN (d:=([(h0, .cells #[.slice p0 q0 r0,I j.band,Pt s0 0, .bool (canc j)] 117 (0,0))]++(t0++u0))) (A:=[]) g0 e0 t1;rw [set_same e0] at l0;have u1:=(l0.picks [6,6,6,6,5,6]);exact ⟨rB ((busy_at hv0 hh hj).symm),(u1.merge7)⟩))⟩
theorem pf_busy_n {p:Nat} {F:FS} {M:Chunk} {F0:List Chunk} (hR:FarmP p F M) {K:Int} (hF:FI F K) {v0:Wkr} (x:Int) (hx:0<=x/\x<F.ws.length) (hv0:F.ws[x.toNat]?=some v0) (hh:¬Holds v0) (hS:Sat W w (M::H::F0)):
  Calls prog 62 #[Pt p 0,I x] w fun e w'=>e= .returned (.bool (busyW F (wAt F x)))/\Sat W w' (M::H::F0):=by
 obtain ⟨wb,wo,wn,wk,q,m,xs,jm,Wc,Qc,Jc,x0,y0,D0,rfl,s0,w0,z0,A0,hQ,hM,B0⟩:=hR
 have b0:Sat W _ ((Tri p 83 (preP F.cfg wb wo wn wk q m) (([]:List Ref).flatMap encRef) (encStt F.st))::Wc::x0.flatten::y0.flatten::Qc::Jc::D0.flatten::H::F0):=Sat.perm hS (by simp)
 have I0:=s0.ll;have E0:=core_len w0;have t0:=z0.1;have u0:=A0.1;rw [List.length_map] at t0 u0;have C0:=B0.l
 have G0:=hF.idle hv0 hh
 refine callsK 27 func62 rfl<|jCO 10 rfl<|sMp b0 (ptr_up 0 rfl tri_pre) 8 (.slice (some ⟨wb,wo,none⟩) wn wk)<|pu1<|sIO s0 x (x).toNat fun a0 _ _ c0 d0 e0=>?_
 obtain ⟨rfl,rfl⟩:=some_addr e0
 obtain ⟨f0,g0,h0,i0,j0,k0,l0⟩:=core_at w0 c0
 have r0:f0=v0:=Option.some.inj (g0.symm.trans hv0);rw [r0] at h0 i0 j0 k0 l0
 refine jOC 4 rfl ?_
 have m0:¬(a0.phase≠0/\a0.phase≠4):=om
 refine drawF b0 [1,12,13] (fn) [0,1,2,3,4,5,7,8,9,10,6,11,12,13,14,15] fun _ n0=>wV 1<|wO rfl ?_
 have o0:=(n0.pick 1 rfl)
 refine cZ (p_holds (x:=a0) d0 o0) ?_
 rintro _ _ ⟨rfl,p0⟩
 exact nA<|wV 1<|wFix 14 _ false (decide_eq_false m0)<|wV 9<|wO rfl<|pu1<|nA<|wO rfl<|pu1<|nA<|wV 2<|wN<|jXR 2 rfl<|retT [.bool false]<|(by have q0:=(p0.pick 1 rfl);exact ⟨rB ((busy_not hv0 hh).symm),(q0.merge7)⟩)
theorem pf_busy {W w:World} {p:Nat} {F:FS} {M H:Chunk} {F0:List Chunk} (hR:FarmP p F M) {K:Int} (hF:FI F K) (x:Int) (hx:0<=x/\x<F.ws.length) (hS:Sat W w (M::H::F0)):
    Calls prog 62 #[.pointer (some ⟨p,0,none⟩), .int .i64 x] w fun e w'=>e= .returned (.bool (busyW F (wAt F x)))/\Sat W w' (M::H::F0):=by
  by_cases hh:Holds (wAt F x)
  · exact pf_busy_h hR hF x hx (hF.fw.wmem hx) hh hS
  · exact pf_busy_n hR hF x hx (hF.fw.wmem hx) hh hS
end Go.Proofs.YtkadmghedmodbaaGreat
