import Derived.Test.YtkadmghedmodbaaGreatR4P3Fi
set_option linter.all false
namespace Go.Proofs.YtkadmghedmodbaaGreat
open Go Go.E Go.Proofs.Tryz
set_option linter.all false
set_option maxRecDepth 100000
set_option maxHeartbeats 2000000
variable {W w:World} {H:Chunk} {F:List Chunk}
theorem nextOf_len:∀(k:Nat) (D:List (List Int)) (j:Int),(nextOf k D j).length<=D.length
  |_,[],_=>by simp [nextOf]
  |k,d::D,j=>by
    have:=nextOf_len (k+1) D j
    simp only [nextOf,List.length_append,List.length_cons]
    split<;>simp<;>omega
theorem nx_short {es:List BEnt} {l:List Task} {n i q:Nat} {e:List Int} {x:BEnt} (h:es.map BEnt.v=(List.range n).map (entN l (i+1) ((l.map (·.deps.l)).take i++[e]))) (hx:es[q]?=some x) (hi:i<4096):x.next.l.length<=4096:=by
  have h1:=(ent_at h hx).2
  have h2:=congrArg BEntV.next h1
  have h3:=nextOf_len 0 ((l.map (·.deps.l)).take i++[e]) q
  have h4:x.next.l=nextOf 0 ((l.map (·.deps.l)).take i++[e]) q:=by simp only [BEnt.v,entN] at h2;rw [h2];split<;>rfl
  rw [h4];simp at h3;omega
theorem b_new (al:Option Addr) (nl kl:Nat) (l:List Task) (hl:RdT encTask 9 [H] al nl kl l) (dl:∀z∈l,Task.Ok [H] z) (hS:Sat W w (H::F)):
  Calls prog 51 #[.slice al nl kl] w fun e w'=>(validC l≠0/\e= .returned (.tuple #[.pointer none,I (validC l)])/\Sat W w' (H::F))\/(validC l=0/\∃(p:Nat) (M:Chunk),e= .returned (.tuple #[Pt p 0,I 0])/\BoardR p (newB l) M/\Sat W w' (M::H::F)):=by
 have L0:=hl.ll
 refine callsK 95 func51 rfl<|jCO 13 rfl<|sE 15 (nl:Int) 0 (fun k2=>jOR 15 rfl<|retT [.pointer none,I 5]<| .inl ⟨by rw [validC_lim om];decide,by rw [validC_lim om];rfl,hS⟩) fun k2=>jOC 6 rfl<|cD ((nl:Int)>4096) (fun l2=>jCR 8 rfl<|retT [.pointer none,I 5]<| .inl ⟨by rw [validC_lim om];decide,by rw [validC_lim om];rfl,hS⟩) fun l2=>jCC 11 rfl<|loopF [0,20,21] (γ:=Nat) (fun i R=>⟨[(22,I (i:Int))],R,nl-i,i<=nl/\(tasksOK 0 (l.take i)=true)/\(0<nl/\nl<=4096)⟩) 0 ⟨hS,om,by simp [tasksOK],om⟩ ?_
 rintro i ρ _ ⟨x0,hi,H0,P0⟩
 refine jCC 6 rfl<|cD ((i:Int)<(nl:Int)) (fun m2=>jCO 7 rfl<|sIN hl i fun j0 _ _ l0 n2=>sMA x0 (n2.up 0 rfl) 0 (encTask j0)<|sAlloc x0 zeroValue51 fun _ _ o2=>pu1<|sTk o2 0 rfl (encTask j0) fun _ l1=>gOO l1 6 [900] rfl<|cS (b_valid j0 (i:Int) ⟨(RdT.flat ((dl j0 (List.mem_of_getElem? l0)).deps.up 1 (by rfl)))⟩ l1.flat) fun _ m1=>jOC 3 rfl<|cBn (taskOK (i:Int) j0) (fun y0=>jCO 4 rfl<|sAdd (i:Int) 1<|jOI 2 rfl<|⟨i+1,od,alB,(m1.dropAt 0 rfl),om,(by rw [tasksOK_take l0,H0];simpa using y0),om⟩) fun y0=>jCR 12 rfl<|retT [.pointer none,I 1]<|(by have r2:=(m1.dropAt 0 rfl);have I0:=validC_bad om om (tasksOK_no l0 (by simpa using y0));exact .inl ⟨by rw [I0];decide,by rw [I0];rfl,r2⟩)) fun m2=>jCC 6 rfl ?_
 have hV:tasksOK 0 l=true:=by rw [<-List.take_of_length_le (i:=i) (l:=l) om];exact H0
 refine jCO 3 rfl<|sMake (kl:= .i64) (kc:= .i64) (enc:=encBEnt) (sz:=4) (nb:=48) x0 ⟨0,0,0,⟨none,0,0,[]⟩⟩ nl (nl:Int) (rfl:(nl:Int)=(nl:Int)) underlying170 (i:=Tryz.t175) kr fR fun m0 n1 _ s2 t2=>pu1<|sBx t2 [.slice (At m0 0) nl nl,I 0] fun e0 _ u2=>jOC 12 rfl ?_
 have v2:Sat W _ ([(e0, .cells #[.slice (At m0 0) nl nl,I 0] 172 (0,0))]::n1::(List.replicate nl ([]:Chunk)).flatten::H::F):=Sat.perm u2 (by simp)
 refine loopF [37,38,6] (γ:=Nat×(Option Addr)×Nat×(List BEnt)×Chunk×(List Chunk)) (fun ⟨i,ae,ke,es,c,cs⟩ R=>⟨[(39,I (i:Int))],[(e0, .cells #[.slice ae nl ke,I 0] 172 (0,0))]::c::cs.flatten::R,nl-i,i<=nl/\OwnT encBEnt 175 4 ae nl ke es c/\Nx es cs/\es.map BEnt.v=(List.range nl).map (entN l i ((l.map (·.deps.l)).take i))⟩) (0,(At m0 0),nl,(List.replicate nl ⟨0,0,0,⟨none,0,0,[]⟩⟩),n1,(List.replicate nl [])) ⟨v2,om,s2,Nx.rep _ _ rfl,(by rw [List.take_zero];exact ents_init l nl _ rfl)⟩ ?_
 rintro ⟨i,ae,ke,es,c,cs⟩ ρ _ ⟨z0,hi,hO,hN,hE⟩
 have R0:=hO.ll
 refine jCC 6 rfl<|CD ((i:Int)<(nl:Int)) (fun w2=>jCR 13 rfl<|retT [Pt e0 0,I 0]<|(by obtain rfl:nl=i:=(by omega);have J0:=ents_new om hE;have x2:Sat W _ (([(e0, .cells #[.slice ae nl ke,I 0] 172 (0,0))]++(c++cs.flatten))::H::F):=Sat.perm z0 (by simp);exact .inr ⟨validC_ok om om hV,_,_,rfl,⟨_,_,_,es,c,cs.flatten,by rw [done_new],hO,hN.ok,J0⟩,x2⟩)) fun w2=>jCO 7 rfl<|sIN hl i fun a0 _ _ f0 y2=>sMA z0 (y2.up 3 rfl) 0 (encTask a0)<|sAlloc z0 zeroValue51 fun _ _ z2=>pu1<|sTk z2 0 rfl (encTask a0) fun _ o1=>nilO ?_
 have hA:=taskOK_asc (tasksOK_at hV f0)
 have S0:=(dl a0 (List.mem_of_getElem? f0)).deps.len;have Q0:=(dl a0 (List.mem_of_getElem? f0)).deps.le
 refine gXO o1 8 [1] rfl<|sIO hO (i:Int) i fun b0 _ _ i0 _ k0=>jOO 8 rfl<|sStF o1 hO k0 2 i 0 b0 (⟨2,b0.attempt,b0.pending,b0.next⟩:BEnt) i0 (I 2) [I 2] sizeOf3 fun _ _ q1 r1=>gOO r1 10 [0] rfl ?_
 have s1:=set_at (y:=(⟨2,b0.attempt,b0.pending,b0.next⟩:BEnt)) i0
 have w4:=OwnT.ptr q1 k0 s1
 refine sStF r1 q1 k0 2 i 2 (⟨2,b0.attempt,b0.pending,b0.next⟩:BEnt) (⟨2,b0.attempt,(a0.deps.n:Int),b0.next⟩:BEnt) s1 (I (a0.deps.n:Int)) [I (a0.deps.n:Int)] sizeOf3 fun _ a3 n0 o0=>?_
 rw [List.set_set] at n0
 refine jOO 8 rfl ?_
 have t1:=set_at (y:=(⟨2,b0.attempt,(a0.deps.n:Int),b0.next⟩:BEnt)) i0
 refine sMp o0 ((OwnT.ptr n0 k0 t1).up 2 rfl) 2 (I (a0.deps.n:Int))<|jOC 3 rfl<|cD ((a0.deps.n:Int)>0) (fun c3=>?_) (fun c3=>?_)
 rotate_left
 ·refine gCC o0 11 [0] rfl<|loopF [68,69,7,6,39,37,38] (γ:=Nat×(List BEnt)×Chunk×(List Chunk)) (fun ⟨j,B0,c1,A0⟩ R=>⟨[(70,I (j:Int))],[(e0, .cells #[.slice ae nl ke,I 0] 172 (0,0))]::c1::A0.flatten::R,a0.deps.n-j,j<=a0.deps.n/\OwnT encBEnt 175 4 ae nl ke B0 c1/\Nx B0 A0/\B0.map BEnt.v=(List.range nl).map (entN l (i+1) ((l.map (·.deps.l)).take i++[a0.deps.l.take j]))⟩) (0,(es.set i (⟨2,b0.attempt,(a0.deps.n:Int),b0.next⟩:BEnt)),a3,cs) ⟨(o0.dropAt 0 rfl),om,n0,(Nx.keep hN i0 rfl),(ents_open hE f0 i0 (by simp only [st0];first|rw [if_pos om]|rw [if_neg om]) rfl (by dsimp only;omega) rfl)⟩ ?_
  rintro ⟨j,B0,c1,A0⟩ ρ _ ⟨a1,hj,C0,E0,D0⟩
  have G0:=C0.le;have F0:=C0.len
  refine jCC 6 rfl<|CD ((j:Int)<(a0.deps.n:Int)) (fun e3=>jCO 7 rfl<|sAdd (i:Int) 1<|jOI 2 rfl<|(by rw [show j=a0.deps.l.length by omega] at D0;exact ⟨(i+1,ae,ke,B0,c1,A0),od,alB,a1,om,C0,E0,ents_done D0 f0⟩)) fun e3=>jCO 6 rfl<|sII (dl a0 (List.mem_of_getElem? f0)).deps (j:Int) fun g0 _ _ b1 f3=>?_
  rw [Int.toNat_natCast] at b1
  refine sMp a1 (f3.up 3 rfl) 0 (I g0)<|jOC 3 rfl ?_
  have K0:=asc_mem hA g0 (List.mem_of_getElem? b1)
  obtain ⟨c0,_,_,p0,_,_,_⟩:=OwnT.elem C0 g0
  obtain ⟨g3,u1,d1⟩:=E0.get p0
  have M0:=d1.le;have N0:=d1.len
  have v1:=Sat.openN (A:=[[(e0, .cells #[.slice ae nl ke,I 0] 172 (0,0))],c1]) g0.toNat u1 a1
  change Sat _ _ (g3::[(e0, .cells #[.slice ae nl ke,I 0] 172 (0,0))]::c1::(A0.eraseIdx g0.toNat).flatten::H::F) at v1
  have O0:c0.next.l.length<=4096:=nx_short D0 p0 om
  obtain ⟨h3,b5,c5,w1,x1,y1,i3⟩:=OwnT.elem C0 g0
  obtain rfl:c0=h3:=Option.some.inj (p0.symm.trans w1)
  exact drawF v1 [14,15,18] (fb 3 1 0 1<|fb 8 1 0 1<|fq 12 3 (x1.up 2 rfl)<|fn) [0,1,2,4,5,6,7,9,13,3,8,10,11,12,14,15,16,17,18] fun _ j3=>wV 9<|wL 0<|wL 1<|wI y1<|wV 1<|wL 2<|wO rfl<|sBK j3 #[I (i:Int)] 3 fun _ _ q0=>nilO ⟨⟨cI q0 2,cI q0 2, .inr ((x1.up 3 rfl).cell q0 (k:=3) rfl),trivial⟩,(wO rfl<|sApp (nb:=8) q0 d1 1 (RdT.blk (enc:=Go.E.encI) (sz:=1) (xs:=[(i:Int)]) fR 1 0 rfl rfl rfl om) underlying22 (i:=Tryz.t3) kr fR fun r0 s0 e1 _ k3 z1=>nZ z1 [2,2]<|wI y1<|wV 1<|wO rfl<|sStF z1 C0 i3 3 (g0).toNat 3 c0 (⟨c0.state,c0.attempt,c0.pending,⟨r0,(c0.next.n+1),s0,(c0.next.l++[(i:Int)])⟩⟩:BEnt) w1 (.slice r0 (c0.next.n+1) s0) [.slice r0 (c0.next.n+1) s0] sizeOf22 fun _ f1 l3 m3=>nA<|wN<|(by have n3:=(m3.dropAt 0 rfl);have a2:=Sat.shutN (d:=e1) (A:=[[(e0, .cells #[.slice ae nl ke,I 0] 172 (0,0))],f1]) g0.toNat u1 n3;change Sat _ _ ([(e0, .cells #[.slice ae nl ke,I 0] 172 (0,0))]::f1::(A0.set g0.toNat e1).flatten::H::F) at a2;exact jXO 3 rfl<|sAdd (j:Int) 1<|jOI 2 rfl<|⟨(j+1,(B0.set ((g0).toNat) (⟨c0.state,c0.attempt,c0.pending,⟨r0,(c0.next.n+1),s0,(c0.next.l++[(i:Int)])⟩⟩:BEnt)),f1,(A0.set g0.toNat e1)),od,alB,a2,om,l3,(E0.set k3),(ents_dep D0 f0 b1 hA p0 rfl rfl rfl rfl)⟩))⟩
 refine jCO 4 rfl<|sStF o0 n0 k0 2 i 0 (⟨2,b0.attempt,(a0.deps.n:Int),b0.next⟩:BEnt) (⟨1,b0.attempt,(a0.deps.n:Int),b0.next⟩:BEnt) t1 (I 1) [I 1] sizeOf3 fun _ o3 b2 c2=>?_
 rw [List.set_set] at b2
 refine gOC c2 11 [0] rfl<|loopF [68,69,7,6,39,37,38] (γ:=Nat×(List BEnt)×Chunk×(List Chunk)) (fun ⟨j,B0,c1,A0⟩ R=>⟨[(70,I (j:Int))],[(e0, .cells #[.slice ae nl ke,I 0] 172 (0,0))]::c1::A0.flatten::R,a0.deps.n-j,j<=a0.deps.n/\OwnT encBEnt 175 4 ae nl ke B0 c1/\Nx B0 A0/\B0.map BEnt.v=(List.range nl).map (entN l (i+1) ((l.map (·.deps.l)).take i++[a0.deps.l.take j]))⟩) (0,(es.set i (⟨1,b0.attempt,(a0.deps.n:Int),b0.next⟩:BEnt)),o3,cs) ⟨(c2.dropAt 0 rfl),om,b2,(Nx.keep hN i0 rfl),(ents_open hE f0 i0 (by simp only [st0];first|rw [if_pos om]|rw [if_neg om]) rfl (by dsimp only;omega) rfl)⟩ ?_
 rintro ⟨j,B0,c1,A0⟩ ρ _ ⟨g1,hj,C0,E0,D0⟩
 have G0:=C0.le;have F0:=C0.len
 refine jCC 6 rfl<|CD ((j:Int)<(a0.deps.n:Int)) (fun r3=>jCO 7 rfl<|sAdd (i:Int) 1<|jOI 2 rfl<|(by rw [show j=a0.deps.l.length by omega] at D0;exact ⟨(i+1,ae,ke,B0,c1,A0),od,alB,g1,om,C0,E0,ents_done D0 f0⟩)) fun r3=>jCO 6 rfl<|sII (dl a0 (List.mem_of_getElem? f0)).deps (j:Int) fun h0 _ _ h1 s3=>?_
 rw [Int.toNat_natCast] at h1
 refine sMp g1 (s3.up 3 rfl) 0 (I h0)<|jOC 3 rfl ?_
 have K0:=asc_mem hA h0 (List.mem_of_getElem? h1)
 obtain ⟨d0,_,_,t0,_,_,_⟩:=OwnT.elem C0 h0
 obtain ⟨u3,d2,i1⟩:=E0.get t0
 have M0:=i1.le;have N0:=i1.len
 have e2:=Sat.openN (A:=[[(e0, .cells #[.slice ae nl ke,I 0] 172 (0,0))],c1]) h0.toNat d2 g1
 change Sat _ _ (u3::[(e0, .cells #[.slice ae nl ke,I 0] 172 (0,0))]::c1::(A0.eraseIdx h0.toNat).flatten::H::F) at e2
 have O0:d0.next.l.length<=4096:=nx_short D0 t0 om
 obtain ⟨v3,l5,m5,f2,g2,h2,w3⟩:=OwnT.elem C0 h0
 obtain rfl:d0=v3:=Option.some.inj (t0.symm.trans f2)
 exact drawF e2 [14,15,18] (fb 3 1 0 1<|fb 8 1 0 1<|fq 12 3 (g2.up 2 rfl)<|fn) [0,1,2,4,5,6,7,9,13,3,8,10,11,12,14,15,16,17,18] fun _ x3=>wV 9<|wL 0<|wL 1<|wI h2<|wV 1<|wL 2<|wO rfl<|sBK x3 #[I (i:Int)] 3 fun _ _ u0=>nilO ⟨⟨cI u0 2,cI u0 2, .inr ((g2.up 3 rfl).cell u0 (k:=3) rfl),trivial⟩,(wO rfl<|sApp (nb:=8) u0 i1 1 (RdT.blk (enc:=Go.E.encI) (sz:=1) (xs:=[(i:Int)]) fR 1 0 rfl rfl rfl om) underlying22 (i:=Tryz.t3) kr fR fun v0 w0 j1 _ y3 i2=>nZ i2 [2,2]<|wI h2<|wV 1<|wO rfl<|sStF i2 C0 w3 3 (h0).toNat 3 d0 (⟨d0.state,d0.attempt,d0.pending,⟨v0,(d0.next.n+1),w0,(d0.next.l++[(i:Int)])⟩⟩:BEnt) f2 (.slice v0 (d0.next.n+1) w0) [.slice v0 (d0.next.n+1) w0] sizeOf22 fun _ k1 z3 a4=>nA<|wN<|(by have b4:=(a4.dropAt 0 rfl);have j2:=Sat.shutN (d:=j1) (A:=[[(e0, .cells #[.slice ae nl ke,I 0] 172 (0,0))],k1]) h0.toNat d2 b4;change Sat _ _ ([(e0, .cells #[.slice ae nl ke,I 0] 172 (0,0))]::k1::(A0.set h0.toNat j1).flatten::H::F) at j2;exact jXO 3 rfl<|sAdd (j:Int) 1<|jOI 2 rfl<|⟨(j+1,(B0.set ((h0).toNat) (⟨d0.state,d0.attempt,d0.pending,⟨v0,(d0.next.n+1),w0,(d0.next.l++[(i:Int)])⟩⟩:BEnt)),k1,(A0.set h0.toNat j1)),od,alB,j2,om,z3,(E0.set y3),(ents_dep D0 f0 h1 hA t0 rfl rfl rfl rfl)⟩))⟩
theorem map_zero {α:Type} (l:List α):l.map (fun _=>(0:Int))=List.replicate l.length 0:=by
  induction l with
  |nil=>rfl
  |cons x l ih=>rw [List.map_cons,ih,List.length_cons,List.replicate_succ]
theorem st_step {l:List Task} {ss:List Int} {n i:Nat} {t:Task} {y:Int} (ht:l[i]?=some t) (h:ss=(l.take i).map (fun t=>st0 t.deps.l)++List.replicate (n-i) 0) (hi:i<n) (hy:y=st0 t.deps.l):
    ss.set i y=(l.take (i+1)).map (fun t=>st0 t.deps.l)++List.replicate (n-(i+1)) 0:=by
  rw [h,hy];exact set_rep (f:=fun t:Task=>st0 t.deps.l) ht hi
theorem r25_new (al:Option Addr) (nl kl:Nat) (l:List Task) (hl:RdT encTask 9 [H] al nl kl l) (dl:∀z∈l,Task.Ok [H] z) (hS:Sat W w (H::F)):
  Calls prog 57 #[.slice al nl kl] w fun e w'=>(validC l≠0/\e= .returned (.tuple #[.pointer none,I (validC l)])/\Sat W w' (H::F))\/(validC l=0/\∃(p:Nat) (M:Chunk),e= .returned (.tuple #[Pt p 0,I 0])/\RefR p (newB l) M/\Sat W w' (M::H::F)):=by
 have N0:=hl.le;have J0:=hl.len
 refine callsK 62 func57 rfl<|jCO 10 rfl<|cS (r25_valid al nl kl l (hl.fl 0) (fun z hz=>(dl z hz).of_mem (mF 0)) hS.flat) fun _ k0=>jOC 9 rfl<|CN (validC l) 0 (fun h0=>jCR 9 rfl<|retT [.pointer none,I (validC l)]<| .inl ⟨h0,rfl,k0⟩) fun h0=>jCC 2 rfl<|cutF k0 0 [0] (γ:=Nat×(Option Addr)×Nat×(Option Addr)×Nat×Chunk×Chunk) (fun ⟨p,sa,ks,aa,ka,cs,ca⟩ R=>⟨[(5,Pt p 0)],[(p, .cells #[nS, .slice sa nl ks, .slice aa nl ka] 179 (0,0))]::cs::ca::R,0,OwnT Go.E.encI 3 1 sa nl ks (List.replicate nl 0) cs/\OwnT Go.E.encI 3 1 aa nl ka (List.replicate nl 0) ca⟩) ?_ ?_
 ·have G0:validC l=0:=h0
  have K0:=validC_zero G0
  refine drawG k0 [2,5,7] (fn) (pS [0,1,3,4]<| .fk 2 5 (.ef 5<|pS [6]<| .ef 7<|pS [8]<| .fin) (.ef 2<|pS [6]<| .ef 7<|pS [8]<| .fin)) fun _ r0=>qV 4<|qF ?_ ?_
  rotate_left
  ·exact qO rfl<|sMake (kl:= .i64) (kc:= .i64) (enc:=Go.E.encI) (sz:=1) (nb:=8) r0 0 nl (nl:Int) (rfl:(nl:Int)=(nl:Int)) underlying22 (i:=Tryz.t3) kr fR fun l0 z0 _ a1 b1=>nA<|qO rfl<|sMake (kl:= .i64) (kc:= .i64) (enc:=Go.E.encI) (sz:=1) (nb:=8) b1 0 nl (nl:Int) (rfl:(nl:Int)=(nl:Int)) underlying22 (i:=Tryz.t3) kr fR fun m0 c1 _ d1 e1=>nA<|qV 1<|qO rfl<|sBx e1 [nS, .slice (At m0 0) nl nl, .slice (At l0 0) nl nl] fun f1 _ g1=>nA<|qV 1<|qN<|jXI 0 rfl<|⟨(f1,(At m0 0),nl,(At l0 0),nl,c1,z0),alB,g1,d1,a1⟩
  exact qO rfl<|sMake (kl:= .i64) (kc:= .i64) (enc:=Go.E.encI) (sz:=1) (nb:=8) r0 0 nl (nl:Int) (rfl:(nl:Int)=(nl:Int)) underlying22 (i:=Tryz.t3) kr fR fun n0 h1 _ i1 j1=>nA<|qO rfl<|sMake (kl:= .i64) (kc:= .i64) (enc:=Go.E.encI) (sz:=1) (nb:=8) j1 0 nl (nl:Int) (rfl:(nl:Int)=(nl:Int)) underlying22 (i:=Tryz.t3) kr fR fun o0 k1 _ l1 m1=>nA<|qV 1<|qO rfl<|sBx m1 [nS, .slice (At n0 0) nl nl, .slice (At o0 0) nl nl] fun n1 _ o1=>nA<|qV 1<|qN<|jXI 0 rfl<|⟨(n1,(At n0 0),nl,(At o0 0),nl,h1,k1),alB,(o1.picks [2,1]),i1,l1⟩
 rintro ⟨p,sa,ks,aa,ka,cs,ca⟩ ρ _ ⟨r1,M0,L0⟩
 refine jCC 2 rfl ?_
 have G0:validC l=0:=h0
 have K0:=validC_zero G0
 refine jCC 5 rfl ?_
 have s1:Sat W _ ([(p, .cells #[nS, .slice sa nl ks, .slice aa nl ka] 179 (0,0))]::([]:Chunk)::([]:Chunk)::cs::ca::H::F):=Sat.perm r1 (by simp)
 refine loopF [0,5] (γ:=Nat×(Option Addr)×Nat×Nat×(List Task)×Chunk×Chunk×(List Int)×Chunk) (fun ⟨i,E0,nt,kt,ts,ct,G,ss,C0⟩ R=>⟨[(6,I (i:Int))],[(p, .cells #[.slice E0 nt kt, .slice sa nl ks, .slice aa nl ka] 179 (0,0))]::ct::G::C0::R,nl-i,i<=nl/\OwnT encTask 51 9 E0 nt kt ts ct/\(∀z∈ts,Task.Ok [G] z)/\OwnT Go.E.encI 3 1 sa nl ks ss C0/\ts.map (·.deps.l)=(l.map (·.deps.l)).take i/\ss=(l.take i).map (fun t=>st0 t.deps.l)++List.replicate (nl-i) 0⟩) (0,none,0,0,[],[],[],(List.replicate nl 0),cs) ⟨s1,om,OwnT.nil fR,(fun z hz=>by cases hz),M0,(by simp),(by simp)⟩ ?_
 rintro ⟨i,E0,nt,kt,ts,ct,G,ss,C0⟩ ρ _ ⟨p0,hi,F0,H0,A0,D0,B0⟩
 have T0:=F0.ll;have S0:=A0.ll;have I0:=congrArg List.length D0;simp only [List.length_map,List.length_take] at I0
 refine jCC 9 rfl<|CD ((i:Int)<(nl:Int)) (fun t1=>jCR 13 rfl<|retT [Pt p 0,I 0]<|(by obtain rfl:nl=i:=(by omega);have u1:Sat W _ (([(p, .cells #[.slice E0 nt kt, .slice sa nl ks, .slice aa nl ka] 179 (0,0))]++(ct++(G++(C0++ca))))::H::F):=Sat.perm p0 (by simp);rw [List.take_of_length_le (by simp;omega)] at D0;rw [List.take_of_length_le om] at B0;exact .inr ⟨G0,_,_,rfl,⟨_,_,_,ts,_,_,_,_,_,_,ct,G,C0,ca,rfl,F0,H0,(by rw [show (newB l).st=ss by rw [B0];simp [newB]];exact A0),(by rw [show (newB l).att=List.replicate nl 0 by simp only [newB];rw [map_zero,J0]];exact L0),D0⟩,u1⟩)) fun t1=>jCO 8 rfl<|sIN hl i fun a0 _ _ b0 v1=>sMA p0 (v1.up 5 rfl) 0 (encTask a0)<|sAlloc p0 zeroValue51 fun _ _ w1=>sTk w1 0 rfl (encTask a0) fun _ s0=>nilO ?_
 have Q0:=asc_len om (taskOK_asc (tasksOK_at K0.2.2 b0));have U0:=(dl a0 (List.mem_of_getElem? b0)).deps.len;have R0:=(dl a0 (List.mem_of_getElem? b0)).deps.le
 refine gXO s0 5 [0] rfl<|sApp (nb:=8) (Sat.nilc s0) (OwnT.nil (enc:=Go.E.encI) (E:=3) (sz:=1) fR) 0 ((dl a0 (List.mem_of_getElem? b0)).deps.up 7 rfl) underlying22 (i:=Tryz.t3) kr fR fun f0 g0 e0 _ t0 z1=>pu1<|tWk z1 1 rfl 6 (.slice f0 (0+a0.deps.n) g0) fun _ a2=>jOC 3 rfl<|drawF a2 [6,7,10] (fb 4 2 0 1<|fb 5 1 0 9<|fn) [0,1,2,3,4,5,6,7,8,9,10] fun _ b2=>wV 4<|wL 0<|wG 1 9<|wO rfl<|sBK b2 (encTask {a0 with deps:=⟨f0,(0+a0.deps.n),g0,[]⟩}).toArray 51 fun _ _ u0=>nZ u0 [3]<|wO rfl<|sApp (nb:=88) u0 F0 4 (RdT.blk (enc:=encTask) (sz:=9) (xs:=[({a0 with deps:=⟨f0,(0+a0.deps.n),g0,([]++a0.deps.l)⟩}:Task)]) fR 1 0 rfl rfl rfl om) underlying45 (i:=Tryz.t51) kr fR fun c0 d0 i0 _ v0 c2=>nA<|wV 2<|wO rfl<|sT c2 3 0 (.slice c0 (nt+1) d0) [.slice c0 (nt+1) d0] #[.slice c0 (nt+1) d0, .slice sa nl ks, .slice aa nl ka] sizeOf45 fun _ w0=>nA<|wN<|gXO w0 8 [3] rfl<|sIO A0 (i:Int) i fun d2 _ _ e2 _ f2=>sStF w0 A0 f2 6 i 0 d2 1 e2 (I 1) [I 1] sizeOf3 fun _ x0 q0 j0=>gOC j0 10 [2] rfl<|cE (((0+a0.deps.n):Nat):Int) 0 (fun g2=>?_) (fun g2=>?_)
 rotate_left
 ·refine jCO 5 rfl<|sAdd (i:Int) 1<|jOI 2 rfl ?_
  have h2:=((j0.picks [4,4]).drops [2,3])
  have i2:Sat W _ ([(p, .cells #[.slice c0 (nt+1) d0, .slice sa nl ks, .slice aa nl ka] 179 (0,0))]::i0::(e0++G)::x0::ca::H::F):=Sat.perm h2 (by simp)
  exact ⟨(i+1,c0,(nt+1),d0,(ts++[({a0 with deps:=⟨f0,(0+a0.deps.n),g0,([]++a0.deps.l)⟩}:Task)]),i0,(e0++G),(ss.set i 1),x0),od,alB,i2,om,v0,(by
    intro z hz
    rcases List.mem_append.1 hz with h|h
    ·exact (H0 z h).of_mem mS
    ·simp only [List.mem_singleton] at h;subst h;exact ⟨(t0.rdAt (cs:=[e0]) 0 rfl).of_mem mS⟩),q0,(by rw [List.map_append,D0,take_succ_at (x:=a0.deps.l) (by simp [b0])];simp),(by first|exact st_step b0 B0 om (by simp only [st0];rw [if_neg om])|(rw [List.set_set];exact st_step b0 B0 om (by simp only [st0];rw [if_pos om])))⟩
 refine gCO j0 6 [3] rfl<|sIO q0 (i:Int) i fun j2 _ _ k2 _ l2=>sStF j0 q0 l2 6 i 0 j2 2 k2 (I 2) [I 2] sizeOf3 fun _ y0 m2 n2=>jOO 5 rfl<|sAdd (i:Int) 1<|jOI 2 rfl ?_
 have o2:=((n2.picks [4,4]).drops [2,3])
 have q2:Sat W _ ([(p, .cells #[.slice c0 (nt+1) d0, .slice sa nl ks, .slice aa nl ka] 179 (0,0))]::i0::(e0++G)::y0::ca::H::F):=Sat.perm o2 (by simp)
 exact ⟨(i+1,c0,(nt+1),d0,(ts++[({a0 with deps:=⟨f0,(0+a0.deps.n),g0,([]++a0.deps.l)⟩}:Task)]),i0,(e0++G),((ss.set i 1).set i 2),y0),od,alB,q2,om,v0,(by
   intro z hz
   rcases List.mem_append.1 hz with h|h
   ·exact (H0 z h).of_mem mS
   ·simp only [List.mem_singleton] at h;subst h;exact ⟨(t0.rdAt (cs:=[e0]) 0 rfl).of_mem mS⟩),m2,(by rw [List.map_append,D0,take_succ_at (x:=a0.deps.l) (by simp [b0])];simp),(by first|exact st_step b0 B0 om (by simp only [st0];rw [if_neg om])|(rw [List.set_set];exact st_step b0 B0 om (by simp only [st0];rw [if_pos om])))⟩
def ptrV (b:Nat):Value:= .pointer (some ⟨b,0,none⟩)
def canc (s:JS):Bool:=!s.running&&decide (doneOf s.B<((s.tasks.length:Nat):Int))
def JobP (b:Nat) (s:JS) (c:Chunk):Prop:=∃(ta:Option Addr) (tn tk:Nat) (tl:List Task) (bb:Nat) (T M:Chunk),
  c=[(b, .cells #[.slice ta tn tk, .int .i64 s.band, .pointer (some ⟨bb,0,none⟩), .bool (canc s)] 117 (0,0))]++(T++M)/\RdT encTask 9 [T] ta tn tk tl/\(∀z∈tl,Task.Ok [T] z)/\tl.map Task.v=s.tasks/\BoardR bb s.B M/\s.added=true/\(s.running=true->doneOf s.B<((s.tasks.length:Nat):Int))
def kvJ (jm:List (Int×Nat)):List (Int×Value):=jm.map fun x=>(x.1,ptrV x.2)
structure JobsP (jobs:List JS) (jm:List (Int×Nat)) (jcs:List Chunk):Prop where
  o:Obs JobP (jm.map (·.2)) (jm.map fun x=>jobs.getD x.1.toNat default) jcs
  nd:(jm.map (·.1)).Nodup
  k:∀i,i∈jm.map (·.1)↔0<=i/\i<64/\(jobs.getD i.toNat default).added=true
  l:jobs.length=64
theorem kv_get {jm:List (Int×Nat)} {n:Nat} {k:Int} {b:Nat} (hn:(jm.map (·.1)).Nodup) (h:jm[n]?=some (k,b)):iget (kvJ jm) k=some (ptrV b):=by
 induction jm generalizing n with
 |nil=>cases h
 |cons q jm ih=>
  rw [List.map_cons,List.nodup_cons] at hn
  cases n with
  |zero=>
   obtain rfl:q=(k,b):=by simpa using h
   simp [iget,kvJ]
  |succ n=>
   have h1:jm[n]?=some (k,b):=by simpa using h
   have h2:=ih hn.2 h1
   have h3:q.1≠k:=fun e=>hn.1 (by rw [e];exact List.mem_map.2 ⟨_,List.mem_of_getElem? h1,rfl⟩)
   unfold iget kvJ at*
   rw [List.map_cons,List.find?_cons]
   have h4:(q.1==k)=false:=by simpa using h3
   simp only [h4];exact h2
theorem JobsP.get {jobs:List JS} {jm:List (Int×Nat)} {jcs:List Chunk} {k:Int} {j:JS} (h:JobsP jobs jm jcs) (hk:0<=k/\k<64) (hj:jobs[k.toNat]?=some j) (ha:j.added=true):
  ∃(n b:Nat) (c:Chunk),jm[n]?=some (k,b)/\jcs[n]?=some c/\JobP b j c/\iget (kvJ jm) k=some (ptrV b):=by
 have e:jobs.getD k.toNat default=j:=getD_some hj
 obtain ⟨x,hx,c0⟩:=List.mem_map.1 ((h.k k).2 ⟨hk.1,hk.2,by rw [e];exact ha⟩)
 obtain ⟨n,hn⟩:=List.getElem?_of_mem hx
 have hb:(jm.map (·.2))[n]?=some x.2:=by rw [List.getElem?_map,hn];rfl
 obtain ⟨s,c,hs,hc,hR⟩:=h.o.get hb
 rw [List.getElem?_map,hn] at hs
 obtain rfl:=Option.some.inj hs
 have b0:x=(k,x.2):=by rw [<-c0]
 exact ⟨n,x.2,c,by rw [hn,<-b0],hc,(by have a0:JobP x.2 (jobs.getD x.1.toNat default) c:=hR;rw [show x.1.toNat=k.toNat by rw [<-c0],e] at a0;exact a0),kv_get h.nd (n:=n) (by rw [hn,<-b0])⟩
theorem getD_set' {α:Type} {l:List α} {i k:Nat} {x d:α} (h:i<l.length):(l.set i x).getD k d=if i=k then x else l.getD k d:=by
  rw [List.getD_eq_getElem?_getD,List.getElem?_set,List.getD_eq_getElem?_getD]
  split
  · rfl
  · rfl
theorem JobsP.set {jobs:List JS} {jm:List (Int×Nat)} {jcs:List Chunk} {k:Int} {n b:Nat} {j2:JS} {c2:Chunk} (h:JobsP jobs jm jcs) (hk:0<=k/\k<64) (hn:jm[n]?=some (k,b)) (hR:JobP b j2 c2) (ha:j2.added=true):
  JobsP (jobs.set k.toNat j2) jm (jcs.set n c2):=by
 have hl:=h.l
 have hb:(jm.map (·.2))[n]?=some b:=by rw [List.getElem?_map,hn];rfl
 have a0:∀i,i∈jm.map (·.1)->0<=i/\i<64:=fun i hi=>⟨((h.k i).1 hi).1,((h.k i).1 hi).2.1⟩
 have e:(jm.map fun x=>(jobs.set k.toNat j2).getD x.1.toNat default)=(jm.map fun x=>jobs.getD x.1.toNat default).set n j2:=by
  apply List.ext_getElem?
  intro i
  rw [List.getElem?_map,List.getElem?_set,List.length_map]
  by_cases hi:n=i
  · exact (by subst hi;have b0:=(List.getElem?_eq_some_iff.1 hn).1;rw [if_pos rfl,if_pos b0,hn];simp only [Option.map_some];rw [getD_set' om,if_pos rfl])
  ·rw [if_neg hi,List.getElem?_map]
   cases hx:jm[i]? with
   |none=>rfl
   |some x=>
    simp only [Option.map_some]
    rw [getD_set' om,if_neg]
    intro q
    have c0:=a0 x.1 (List.mem_map.2 ⟨x,List.mem_of_getElem? hx,rfl⟩)
    have q2:k=x.1:=by omega
    have h1:(jm.map (·.1))[n]?=some k:=by rw [List.getElem?_map,hn];rfl
    have h2:(jm.map (·.1))[i]?=some k:=by rw [List.getElem?_map,hx,q2];rfl
    exact hi ((List.getElem?_inj ((List.getElem?_eq_some_iff.1 h1).1) h.nd).1 (h1.trans h2.symm))
 refine ⟨by rw [e];exact h.o.set hb hR,h.nd,?_,by rw [List.length_set];exact h.l⟩
 intro i
 rw [h.k i]
 constructor
 ·rintro ⟨h1,h2,h3⟩
  refine ⟨h1,h2,?_⟩
  rw [getD_set' om]
  split
  ·exact ha
  ·exact h3
 ·rintro ⟨h1,h2,h3⟩
  refine ⟨h1,h2,?_⟩
  rw [getD_set' om] at h3
  split at h3
  · exact (by rename_i q;have q2:k=i:=(by omega);have h4:k∈jm.map (·.1):=List.mem_map.2 ⟨_,List.mem_of_getElem? hn,rfl⟩;rw [<-q2];exact ((h.k k).1 h4).2.2)
  ·exact h3
theorem JobP.open {b:Nat} {s:JS} {c:Chunk} (h:JobP b s c):∃(ta:Option Addr) (tn tk:Nat) (tl:List Task) (bb:Nat) (T M:Chunk),
  c=[(b, .cells #[.slice ta tn tk, .int .i64 s.band, .pointer (some ⟨bb,0,none⟩), .bool (canc s)] 117 (0,0))]++(T++M)/\RdT encTask 9 [T] ta tn tk tl/\(∀z∈tl,Task.Ok [T] z)/\tl.map Task.v=s.tasks/\BoardR bb s.B M/\s.added=true/\(s.running=true->doneOf s.B<(s.tasks.length:Int)):=h
theorem JobP.mk {b:Nat} {s:JS} {ta:Option Addr} {tn tk:Nat} {tl:List Task} {bb:Nat} {T M:Chunk} {cn:Bool} (hT:RdT encTask 9 [T] ta tn tk tl) (hD:∀z∈tl,Task.Ok [T] z) (hV:tl.map Task.v=s.tasks) (hB:BoardR bb s.B M) (ha:s.added=true) (hr:s.running=true->doneOf s.B<(s.tasks.length:Int)) (hc:cn=canc s):
    JobP b s ([(b, .cells #[.slice ta tn tk, .int .i64 s.band, .pointer (some ⟨bb,0,none⟩), .bool cn] 117 (0,0))]++(T++M)):=by subst hc;exact ⟨_,_,_,_,_,_,_,rfl,hT,hD,hV,hB,ha,hr⟩
theorem some_addr {b o b' o':Nat} (h:(some ⟨b,o,none⟩:Option Addr)=some ⟨b',o',none⟩):b=b'/\o=o':=by cases h;exact ⟨rfl,rfl⟩
def F12 (F:FS):Prop:=∀q∈shapeF F.jobs,q.2<=12
theorem F12.job {F:FS} (h:F12 F) {k:Nat} {j:JS} (hj:F.jobs[k]?=some j):j.tasks.length<=12:=h (j.added,j.tasks.length) (List.mem_map.2 ⟨j,List.mem_of_getElem? hj,rfl⟩)
theorem F12.of {F G:FS} (h:F12 F) (hs:shapeF G.jobs=shapeF F.jobs):F12 G:=by unfold F12;rw [hs];exact h
theorem done_le {B:BS} (hl:B.st.length=B.deps.length):doneOf B<=(B.deps.length:Int):=by
  unfold doneOf
  have:=List.length_filter_le (fun x=>decide (x=4)) B.st
  omega
def RestJ (jm:List (Int×Nat)) (rs:List (Int×Value)):Prop:=∃l:List (Int×Nat),rs=kvJ l/\∀x∈l,x∈jm
theorem RestJ.all (jm:List (Int×Nat)):RestJ jm (kvJ jm):=⟨jm,rfl,fun _ h=>h⟩
theorem RestJ.take {jm:List (Int×Nat)} {rs l1 l2:List (Int×Value)} {q:Int×Value} (h:RestJ jm rs) (e:rs=l1++q::l2):∃(k:Int) (b:Nat),q=(k,ptrV b)/\(k,b)∈jm/\RestJ jm (l1++l2):=by
  obtain ⟨l,rfl,hm⟩:=h
  have e1:l.map (fun x=>(x.1,ptrV x.2))=l1++q::l2:=e
  obtain ⟨a,b',rfl,ha,hb⟩:=List.map_eq_append_iff.1 e1
  obtain ⟨x,c,rfl,hx,hc⟩:=List.map_eq_cons_iff.1 hb
  exact ⟨x.1,x.2,hx.symm,hm x (by simp),a++c,(by rw [<-ha,<-hc];unfold kvJ;rw [List.map_append]),fun y hy=>hm y (by rcases List.mem_append.1 hy with h|h<;>simp [h])⟩
theorem JobsP.add {jobs:List JS} {jm:List (Int×Nat)} {jcs:List Chunk} {k:Int} {b:Nat} {j2:JS} {c2:Chunk} (h:JobsP jobs jm jcs) (hk:0<=k/\k<64) (hno:(jobs.getD k.toNat default).added=false) (hR:JobP b j2 c2) (ha:j2.added=true):
  JobsP (jobs.set k.toNat j2) (jm++[(k,b)]) (jcs++[c2]):=by
 have hl:=h.l
 have a0:k∉jm.map (·.1):=fun hm=>by have:=((h.k k).1 hm).2.2;rw [hno] at this;cases this
 have e:(jm.map fun x=>(jobs.set k.toNat j2).getD x.1.toNat default)=(jm.map fun x=>jobs.getD x.1.toNat default):=(by apply List.map_congr_left;intro x hx;rw [getD_set' om,if_neg];intro q;have b0:=(h.k x.1).1 (List.mem_map.2 ⟨x,hx,rfl⟩);have q2:k=x.1:=(by omega);exact a0 (by rw [q2];exact List.mem_map.2 ⟨x,hx,rfl⟩))
 refine ⟨?_,?_,?_,by rw [List.length_set];exact hl⟩
 · exact (by rw [List.map_append,List.map_append,e];exact Obs.snoc h.o<|(by show JobP b ((jobs.set k.toNat j2).getD k.toNat default) c2;rw [getD_set' om,if_pos rfl];exact hR))
 · exact (by rw [List.map_append,List.nodup_append];refine ⟨h.nd,by simp,?_⟩;intro a ha b' hb';obtain rfl:b'=k:=(by simpa using hb');exact fun q=>a0 (by rw [<-q];exact ha))
 ·intro i
  rw [List.map_append,List.mem_append,h.k i,getD_set' om]
  constructor
  ·rintro (⟨h1,h2,h3⟩|h1)
   ·refine ⟨h1,h2,?_⟩
    split
    ·exact ha
    ·exact h3
   · exact (by obtain rfl:i=k:=(by simpa using h1);exact ⟨hk.1,hk.2,by rw [if_pos rfl];exact ha⟩)
  ·rintro ⟨h1,h2,h3⟩
   by_cases q:k=i
   ·right;subst q;simp
   · exact (by left;rw [if_neg om] at h3;exact ⟨h1,h2,h3⟩)
def SortTo (zs:List Int) (i:Nat):Prop:=∀(p q:Nat) (u v:Int),p<q->q<i->zs[p]?=some u->zs[q]?=some v->u<=v
def InsI (ys:List Int) (i j:Nat):Prop:=∀(p q:Nat) (u v:Int),p<q->q<=i->q≠j->ys[p]?=some u->ys[q]?=some v->u<=v
theorem SortTo.one (zs:List Int) {i:Nat} (h:i<=1):SortTo zs i:=fun p q u v h1 h2=>by omega
theorem InsI.zero {ys:List Int} {i j:Nat} (h:InsI ys i j) (hj:j=0):SortTo ys (i+1):=fun p q u v h1 h2=>h p q u v h1 (by omega) (by omega)
def addedN (F:FS):Nat:=((shapeF F.jobs).filter (·.1)).length
structure FJ (F:FS) (K:Int) (n:Nat):Prop where
  i:FI F K
  t:F12 F
  n:addedN F<=n
  h:F.st.held=0
theorem spill_held {x job band:Int}:∀(l:List Int) {F:FS},(spillF F x job band l).st.held=F.st.held
  |[],_=>rfl
  |t::l,F=>by
    have h:(spill1 F x ⟨job,t⟩ band).st.held=F.st.held:=by unfold spill1;split<;>rfl
    exact (spill_held l).trans h
theorem micro_held {F:FS} {x:Int}:(microF F x).1.st.held=F.st.held:=by
  unfold microF
  simp only
  split
  · rfl
  · split
    · rfl
    · split<;>exact spill_held _
theorem acq_held {F F':FS} {x c:Int} {ev:Evt} (he:acqF F x c=some (F',ev)):F'.st.held=F.st.held:=by
  unfold acqF at he
  split at he
  · obtain ⟨rfl,_⟩:=Prod.mk.inj (Option.some.inj he);rfl
  · split at he
    · obtain ⟨rfl,_⟩:=Prod.mk.inj (Option.some.inj he);rfl
    · unfold stealF at he
      split at he
      · cases he
      · split at he
        · cases he
        · obtain ⟨rfl,_⟩:=Prod.mk.inj (Option.some.inj he);rfl
theorem step_held {F:FS} {x c:Int}:(stepF F x c).1.st.held=F.st.held:=by
  unfold stepF
  split
  · rfl
  · split
    · rfl
    · split
      · split
        · exact micro_held
        · rfl
      · unfold restF
        split
        · rename_i q hq;exact acq_held (ev:=q.2) hq
        · split
          · exact micro_held
          · rfl
theorem ret_held9 {F:FS} {v:Wkr}:(retJ F v).st=F.st:=by unfold retJ;split<;>rfl
theorem crash_held {F:FS} {x:Int}:(crashF F x).1.st.held=F.st.held:=by
  unfold crashF
  split
  · rfl
  · split
    · rfl
    · show (retJ F (wAt F x)).st.held=_;rw [ret_held9]
theorem restart_held {F:FS} {x:Int}:(restartF F x).1.st.held=F.st.held:=by
  unfold restartF
  split
  · rfl
  · split<;>rfl
theorem cancel_held {F:FS} {x:Int}:(cancelF F x).1.st.held=F.st.held:=by
  unfold cancelF
  split
  · rfl
  · split<;>rfl
theorem FJ.op {F G:FS} {K L:Int} {n:Nat} (h:FJ F K n) (hi:FI G L) (hs:shapeF G.jobs=shapeF F.jobs) (hh:G.st.held=F.st.held):FJ G L n:=⟨hi,h.t.of hs,by unfold addedN;rw [hs];exact h.n,hh.trans h.h⟩
theorem FJ.step {F:FS} {K x c:Int} {n:Nat} (h:FJ F K n) (hK:K+1<=4096):FJ (stepF F x c).1 (K+1) n:=h.op (h.i.step hK) (step_ok h.i.fw h.i.st hK).2.2 step_held
theorem FJ.crash {F:FS} {K x:Int} {n:Nat} (h:FJ F K n) (hK:K+1<=4096):FJ (crashF F x).1 (K+1) n:=h.op (h.i.crash hK) (crash_ok h.i.fw h.i.st hK).2.2 crash_held
theorem FJ.restart {F:FS} {K x:Int} {n:Nat} (h:FJ F K n) (hK:K+1<=4096):FJ (restartF F x).1 (K+1) n:=h.op (h.i.restart hK) (restart_ok h.i.fw h.i.st hK).2.2 restart_held
theorem FJ.cancel {F:FS} {K x:Int} {n:Nat} (h:FJ F K n) (hK:K+1<=4096):FJ (cancelF F x).1 (K+1) n:=h.op (h.i.cancel hK) (cancel_ok h.i.fw h.i.st hK).2.2 cancel_held
theorem filter_set {S:List (Bool×Nat)}:∀{k:Nat} {q:Bool×Nat},((S.set k q).filter (·.1)).length<=(S.filter (·.1)).length+1:=by
  induction S with
  |nil=>intro k q;simp
  |cons x S ih=>
    intro k q
    cases k with
    |zero=>simp only [List.set_cons_zero,List.filter_cons];split<;>split<;>(first|omega|(simp only [List.length_cons];omega))
    |succ k=>
      have:=ih (k:=k) (q:=q)
      simp only [List.set_cons_succ,List.filter_cons];split<;>(first|omega|(simp only [List.length_cons];omega))
theorem FJ.add {F:FS} {K x bd:Int} {n:Nat} {l:List Task} {j:JS} (h:FJ F K n) (hx:0<=x/\x<64) (hj:F.jobs[x.toNat]?=some j) (ha:j.added=false) (hb:0<=bd/\bd<4) (hv:validC l=0) (hs:∀z∈l,z.scratch<=F.cfg.arena) (htk:(l.length:Int)<=F.cfg.tasks-loadL F.jobs) (hl:l.length<=12):FJ (addF F x l bd) K (n+1):=by
 have e:shapeF (addF F x l bd).jobs=(shapeF F.jobs).set x.toNat (true,l.length):=by simp only [addF,shapeF,List.map_set,jobN,List.length_map]
 refine ⟨h.i.add hx hj ha hb hv hs htk,?_,?_,h.h⟩
 ·unfold F12;rw [e]
  intro q hq
  rcases List.mem_or_eq_of_mem_set hq with h1|rfl
  ·exact h.t q h1
  ·exact hl
 · exact (by have h1:=filter_set (S:=shapeF F.jobs) (k:=x.toNat) (q:=(true,l.length));have h2:=h.n;unfold addedN at*;rw [e];omega)
theorem FJ.new {c:Cfg} (hv:validCfg c=0):FJ (newF c) 0 0:=by
  refine ⟨FI.new hv,?_,?_,rfl⟩
  · exact (by intro q hq;simp only [newF,shapeF,List.map_replicate] at hq;obtain rfl:=List.eq_of_mem_replicate hq;exact Nat.zero_le _)
  · exact (by have:addedN (newF c)=0:=rfl;rw [this];exact Nat.le_refl _)
theorem FJ.mono {F:FS} {K L:Int} {n m:Nat} (h:FJ F K n) (hk:K<=L) (hL:L<=4096) (hn:n<=m):FJ F L m:=⟨h.i.mono hk hL,h.t,Nat.le_trans h.n hn,h.h⟩
theorem eqvn63 (w:World) (a0 a1 a2 a3 a4 a5 a6 b0 b1 b2 b3 b4 b5 b6:Int):∀x y,((do eqGuard .neq 63 x y (.agg #[I a0,I a1,I a2,I a3,I a4,I a5,I a6]) (.agg #[I b0,I b1,I b2,I b3,I b4,I b5,I b6]);binOp .neq 63 (.agg #[I a0,I a1,I a2,I a3,I a4,I a5,I a6]) (.agg #[I b0,I b1,I b2,I b3,I b4,I b5,I b6])):Sem Value).run prog w= .ok (.bool (!((a0==b0)&&(a1==b1)&&(a2==b2)&&(a3==b3)&&(a4==b4)&&(a5==b5)&&(a6==b6)))) w:=by
 intro x y
 simp [go_sem,run_eqGuard_agg,run_neq_struct,run_equalIn_agg]
 by_cases h0:a0=b0<;>by_cases h1:a1=b1<;>by_cases h2:a2=b2<;>by_cases h3:a3=b3<;>by_cases h4:a4=b4<;>by_cases h5:a5=b5<;>by_cases h6:a6=b6<;>simp [*]
theorem eqve63 (w:World) (a0 a1 a2 a3 a4 a5 a6 b0 b1 b2 b3 b4 b5 b6:Int):∀x y,((do eqGuard .eql 63 x y (.agg #[I a0,I a1,I a2,I a3,I a4,I a5,I a6]) (.agg #[I b0,I b1,I b2,I b3,I b4,I b5,I b6]);binOp .eql 63 (.agg #[I a0,I a1,I a2,I a3,I a4,I a5,I a6]) (.agg #[I b0,I b1,I b2,I b3,I b4,I b5,I b6])):Sem Value).run prog w= .ok (.bool ((a0==b0)&&(a1==b1)&&(a2==b2)&&(a3==b3)&&(a4==b4)&&(a5==b5)&&(a6==b6))) w:=by
 intro x y
 simp [go_sem,run_eqGuard_agg,run_eql_struct,run_equalIn_agg]
 by_cases h0:a0=b0<;>by_cases h1:a1=b1<;>by_cases h2:a2=b2<;>by_cases h3:a3=b3<;>by_cases h4:a4=b4<;>by_cases h5:a5=b5<;>by_cases h6:a6=b6<;>simp [*]
theorem eqvn61 (w:World) (a0 a1 b0 b1:Int):∀x y,((do eqGuard .neq 61 x y (.agg #[.int .i64 a0, .int .i64 a1]) (.agg #[.int .i64 b0, .int .i64 b1]);binOp .neq 61 (.agg #[.int .i64 a0, .int .i64 a1]) (.agg #[.int .i64 b0, .int .i64 b1])):Sem Value).run prog w= .ok (.bool (!((a0==b0)&&(a1==b1)))) w:=by
  intro x y
  simp [go_sem,run_eqGuard_agg,run_neq_struct,run_equalIn_agg]
  by_cases h0:a0=b0<;>by_cases h1:a1=b1<;>simp [*]
theorem eqve61 (w:World) (a0 a1 b0 b1:Int):∀x y,((do eqGuard .eql 61 x y (.agg #[.int .i64 a0, .int .i64 a1]) (.agg #[.int .i64 b0, .int .i64 b1]);binOp .eql 61 (.agg #[.int .i64 a0, .int .i64 a1]) (.agg #[.int .i64 b0, .int .i64 b1])):Sem Value).run prog w= .ok (.bool ((a0==b0)&&(a1==b1))) w:=by
  intro x y
  simp [go_sem,run_eqGuard_agg,run_eql_struct,run_equalIn_agg]
  by_cases h0:a0=b0<;>by_cases h1:a1=b1<;>simp [*]
end Go.Proofs.YtkadmghedmodbaaGreat

namespace Go.Proofs.YtkadmghedmodbaaGreat
open Go Go.E Go.Proofs.Tryz
set_option linter.all false
set_option maxRecDepth 100000
set_option maxHeartbeats 2000000
variable {W w:World} {H:Chunk} {F:List Chunk}
theorem r_has {p:Nat} {B:BS} {K:Int} {M:Chunk} (hB:RefR p B M) (hW:BWf B K) (i:Int) (hS:Sat W w (M::H::F)):
  Calls prog 171 #[Pt p 0,I i] w fun e w'=>e= .returned (.bool (decide (inB B i)))/\Sat W w' (M::H::F):=by
 refine callsK 20 func171 rfl<|jCC 6 rfl ?_
 have b0:=(hS.picks [1,1])
 obtain ⟨a,n,k,ts,sa,sn,sk,ta,tn,tk,c,G,cs,ct,rfl,hO,hD,f0,g0,h0⟩:=hB
 have a0:Sat W _ ([(p, .cells #[.slice a n k, .slice sa sn sk, .slice ta tn tk] 179 (0,0))]::c::G::cs::ct::H::F):=Sat.perm b0 (by simp)
 have m0:=hO.ll;have o0:=f0.ll;have p0:=g0.ll;have i0:=congrArg List.length h0;rw [List.length_map] at i0;have q0:=hW.ls;have r0:=hW.la;have s0:=hW.n0
 exact jCO 8 rfl<|SD 11 (i>=0) (fun c0=>jOR 12 rfl<|retT [.bool false]<|(by have d0:Sat W _ (([(p, .cells #[.slice a n k, .slice sa sn sk, .slice ta tn tk] 179 (0,0))]++(c++(G++(cs++ct))))::H::F):=Sat.perm a0 (by simp);exact ⟨rB (decide_eq_false (by unfold inB;omega)).symm,d0⟩)) fun c0=>gOR a0 12 [0] rfl<|retT [.bool (decide (i<(n:Int)))]<|(by have e0:Sat W _ (([(p, .cells #[.slice a n k, .slice sa sn sk, .slice ta tn tk] 179 (0,0))]++(c++(G++(cs++ct))))::H::F):=Sat.perm a0 (by simp);exact ⟨rB (decide_eq_decide.2 (by unfold inB;omega)),e0⟩)
theorem r_held {p:Nat} {B:BS} {K:Int} {M:Chunk} (hB:RefR p B M) (hW:BWf B K) (i:Int) (m:Int) (hS:Sat W w (M::H::F)):
  Calls prog 114 #[Pt p 0,I i,I m] w fun e w'=>e= .returned (I (heldC B i m))/\Sat W w' (M::H::F):=by
 refine callsK 30 func114 rfl<|jCO 10 rfl<|cZ (r_has hB hW i hS.flat1) ?_
 rintro _ _ ⟨rfl,f0⟩
 have e0:=f0.unflat1
 refine jOC 3 rfl<|CDn (inB B i) (fun b0=>jCR 7 rfl<|retT [I 16]<|⟨by unfold heldC;rw [if_neg b0];rfl,e0⟩) fun b0=>jCC 4 rfl ?_
 have g0:=(e0.picks [1,1])
 obtain ⟨a,n,k,ts,sa,sn,sk,ta,tn,tk,c,G,cs,ct,rfl,hO,hD,r0,s0,u0⟩:=hB
 have a0:Sat W _ ([(p, .cells #[.slice a n k, .slice sa sn sk, .slice ta tn tk] 179 (0,0))]::c::G::cs::ct::H::F):=Sat.perm g0 (by simp)
 have C0:=hO.ll;have D0:=r0.ll;have E0:=s0.ll;have x0:=congrArg List.length u0;rw [List.length_map] at x0;have F0:=hW.ls;have G0:=hW.la;have H0:=hW.n0
 have w0:0<=i/\i<(B.deps.length:Int):=b0;have t0:=stAt_nat B.st w0.1
 refine gCO a0 6 [0] rfl<|sIO r0 i (i).toNat fun c0 _ _ h0 i0 _=>?_
 have v0:B.st.getD i.toNat 0=c0:=by rw [List.getD_eq_getElem?_getD,h0];rfl
 refine sMp a0 (i0.up 3 rfl) 0 (I c0)<|pu2<|SN 19 c0 3 (fun j0=>jOR 20 rfl<|retT [I 20]<|(by have k0:Sat W _ (([(p, .cells #[.slice a n k, .slice sa sn sk, .slice ta tn tk] 179 (0,0))]++(c++(G++(cs++ct))))::H::F):=Sat.perm a0 (by simp);exact ⟨by unfold heldC;rw [if_pos b0,if_neg (by rw [t0];omega)];rfl,k0⟩)) fun j0=>gOO a0 5 [0] rfl<|gY<|sIO s0 i (i).toNat fun d0 _ _ l0 m0 _=>?_
 have z0:B.att.getD i.toNat 0=d0:=by rw [List.getD_eq_getElem?_getD,l0];rfl
 exact gY<|sMp a0 (m0.up 4 rfl) 0 (I d0)<|jOC 5 rfl<|CN d0 m (fun o0=>jCR 7 rfl<|retT [I 20]<|(by have p0:Sat W _ (([(p, .cells #[.slice a n k, .slice sa sn sk, .slice ta tn tk] 179 (0,0))]++(c++(G++(cs++ct))))::H::F):=Sat.perm a0 (by simp);exact ⟨by unfold heldC;rw [if_pos b0,if_neg (by rw [t0];omega)];rfl,p0⟩)) fun o0=>jCR 8 rfl<|retT [I 0]<|(by have q0:Sat W _ (([(p, .cells #[.slice a n k, .slice sa sn sk, .slice ta tn tk] 179 (0,0))]++(c++(G++(cs++ct))))::H::F):=Sat.perm a0 (by simp);exact ⟨by unfold heldC;rw [if_pos b0,if_pos (by rw [t0];omega)];rfl,q0⟩)
theorem r_total {p:Nat} {B:BS} {K:Int} {M:Chunk} (hB:RefR p B M) (hW:BWf B K) (hS:Sat W w (M::H::F)):
  Calls prog 185 #[Pt p 0] w fun e w'=>e= .returned (I (B.deps.length:Int))/\Sat W w' (M::H::F):=by
 have b0:=(hS.picks [1,1])
 obtain ⟨a,n,k,ts,sa,sn,sk,ta,tn,tk,c,G,cs,ct,rfl,hO,hD,d0,e0,f0⟩:=hB
 have a0:Sat W _ ([(p, .cells #[.slice a n k, .slice sa sn sk, .slice ta tn tk] 179 (0,0))]::c::G::cs::ct::H::F):=Sat.perm b0 (by simp)
 have k0:=hO.ll;have l0:=d0.ll;have m0:=e0.ll;have g0:=congrArg List.length f0;rw [List.length_map] at g0;have o0:=hW.ls;have p0:=hW.la;have q0:=hW.n0
 exact callsK 10 func185 rfl<|gCR a0 26 [0] rfl<|retT [I (n:Int)]<|(by have c0:Sat W _ (([(p, .cells #[.slice a n k, .slice sa sn sk, .slice ta tn tk] 179 (0,0))]++(c++(G++(cs++ct))))::H::F):=Sat.perm a0 (by simp);exact ⟨by rw [show B.deps.length=n by omega];rfl,c0⟩)
theorem r_with {p:Nat} {B:BS} {K:Int} {M:Chunk} (hB:RefR p B M) (hW:BWf B K) (y:Int) (hS:Sat W w (M::H::F)):
  Calls prog 109 #[Pt p 0,I y] w fun e w'=>∃(az:Option Addr) (nz kz:Nat) (Z:Chunk),e= .returned (.slice az nz kz)/\RdT Go.E.encI 1 [Z] az nz kz (idxOf y 0 B.st)/\Sat W w' (Z::M::H::F):=by
 have d0:=(hS.picks [1,1])
 obtain ⟨a,n,k,ts,sa,sn,sk,ta,tn,tk,c,G,cs,ct,rfl,hO,hD,v0,w0,z0⟩:=hB
 have e0:Sat W _ ([(p, .cells #[.slice a n k, .slice sa sn sk, .slice ta tn tk] 179 (0,0))]::c::G::cs::ct::H::F):=Sat.perm d0 (by simp)
 have E0:=hO.ll;have F0:=v0.ll;have G0:=w0.ll;have A0:=congrArg List.length z0;rw [List.length_map] at A0;have H0:=hW.ls;have I0:=hW.la;have J0:=hW.n0
 refine callsK 34 func109 rfl<|jCC 17 rfl<|loopF [0,1] (γ:=Nat×(List Int)×SO) (fun ⟨i,zs,t0,s0,u0,g0⟩ R=>⟨[(6,I (i:Int)),(5, .slice t0 s0 u0)],g0::R,sn-i,i<=sn/\(zs=idxOf y 0 (B.st.take i))/\(zs.length<=i)/\OwnT Go.E.encI 3 1 t0 s0 u0 zs g0⟩) (0,[],none,0,0,[]) ⟨(Sat.nilc e0),om,rfl,by simp,(OwnT.nil (enc:=Go.E.encI) (E:=3) (sz:=1) fR)⟩ ?_
 rintro ⟨i,zs,t0,s0,u0,g0⟩ ρ _ ⟨a0,hi,hz,K0,f0⟩
 have x0:=f0.ll
 exact gCC a0 16 [1] rfl<|CD ((i:Int)<(sn:Int)) (fun h0=>jCR 12 rfl<|retT [.slice t0 s0 u0]<|(by have i0:Sat W _ (g0::([(p, .cells #[.slice a n k, .slice sa sn sk, .slice ta tn tk] 179 (0,0))]++(c++(G++(cs++ct))))::H::F):=Sat.perm a0 (by simp);have y0:=(f0.rdAt (cs:=[g0]) 0 rfl);rw [hz,List.take_of_length_le om] at y0;exact ⟨_,_,_,_,rfl,y0,i0⟩)) fun h0=>gCO a0 11 [1] rfl<|sIO v0 (i:Int) i fun b0 _ _ c0 j0 _=>sMp a0 (j0.up 4 rfl) 0 (I b0)<|jOC 4 rfl<|CE b0 y (fun k0=>jCO 5 rfl<|sAdd (i:Int) 1<|jOI 2 rfl<|⟨(i+1,zs,t0,s0,u0,g0),od,alB,a0,om,(idx_n hz om (by rw [getD_at c0];omega)),(by first|omega|(simp;omega)),f0⟩) fun k0=>jCO 3 rfl<|sBK a0 #[I (i:Int)] 3 fun _ _ l0=>sApp (nb:=8) l0 f0 1 (RdT.blk (enc:=Go.E.encI) (sz:=1) (xs:=[(i:Int)]) fR 1 0 rfl rfl rfl om) underlying22 (i:=Tryz.t3) kr fR fun m0 o0 p0 _ q0 r0=>jOO 6 rfl<|sAdd (i:Int) 1<|jOI 2 rfl<|⟨(i+1,(zs++[(i:Int)]),m0,(s0+1),o0,p0),od,alB,(r0.dropAt 0 rfl),om,(idx_y hz om (by rw [getD_at c0];omega)),(by first|omega|(simp;omega)),q0⟩
theorem r_ready {p:Nat} {B:BS} {K:Int} {M:Chunk} (hB:RefR p B M) (hW:BWf B K) (hS:Sat W w (M::H::F)):
    Calls prog 59 #[.pointer (some ⟨p,0,none⟩)] w fun e w'=>∃(az:Option Addr) (nz kz:Nat) (Z:Chunk),e= .returned (.slice az nz kz)/\RdT Go.E.encI 1 [Z] az nz kz (idxOf 2 0 B.st)/\Sat W w' (Z::M::H::F):=by
  refine callsK 5 func59 rfl<|jCO 8 rfl<|cZ (r_with hB hW 2 hS.flat1) ?_
  rintro _ i0 ⟨c0,g0,f0,h0,rfl,a0,d0⟩
  have e0:=d0.unflat2;have b0:=a0.len
  exact jOR 4 rfl<|retT [.slice c0 g0 f0]<|⟨_,_,_,_,rfl,a0,e0⟩
theorem r_done {p:Nat} {B:BS} {K:Int} {M:Chunk} (hB:RefR p B M) (hW:BWf B K) (hS:Sat W w (M::H::F)):
  Calls prog 135 #[Pt p 0] w fun e w'=>e= .returned (I (doneOf B))/\Sat W w' (M::H::F):=by
 refine callsK 6 func135 rfl<|jCO 8 rfl<|cZ (r_with hB hW 4 hS.flat1) ?_
 rintro _ _ ⟨_,a0,_,_,rfl,b0,c0⟩
 have d0:=c0.unflat2;have e0:=b0.len
 exact jOR 5 rfl<|retT [I (a0:Int)]<|⟨congrArg (fun z=>Ending.returned (I z)) (by unfold doneOf;rw [<-idx_len 0];omega),(d0.dropAt 0 rfl)⟩
theorem r_start {p:Nat} {B:BS} {K:Int} {M:Chunk} (hB:RefR p B M) (hW:BWf B K) (i:Int) (hS:Sat W w (M::H::F)):
  Calls prog 179 #[Pt p 0,I i] w fun e w'=>∃M':Chunk,e= .returned (.tuple #[I (startB B i).2.1,I (startB B i).2.2])/\RefR p ((startB B i).1) M'/\Sat W w' (M'::H::F):=by
 refine callsK 31 func179 rfl<|jCO 11 rfl<|cZ (r_has hB hW i hS.flat1) ?_
 rintro _ _ ⟨rfl,j0⟩
 have g0:=j0.unflat1
 refine jOC 3 rfl<|CDn (inB B i) (fun b0=>jCR 8 rfl<|retT [I 0,I 16]<|(by have he:startB B i=(B,0,16):=(by unfold startB;rw [if_neg b0]);exact ⟨_,by rw [he];rfl,by rw [he];exact hB,g0⟩)) fun b0=>jCC 4 rfl ?_
 have k0:=(g0.picks [1,1])
 obtain ⟨a,n,k,ts,sa,sn,sk,ta,tn,tk,c,G,cs,ct,rfl,hO,hD,v0,w0,x0⟩:=hB
 have c0:Sat W _ ([(p, .cells #[.slice a n k, .slice sa sn sk, .slice ta tn tk] 179 (0,0))]::c::G::cs::ct::H::F):=Sat.perm k0 (by simp)
 have F0:=hO.ll;have G0:=v0.ll;have H0:=w0.ll;have B0:=congrArg List.length x0;rw [List.length_map] at B0;have I0:=hW.ls;have J0:=hW.la;have K0:=hW.n0
 have A0:0<=i/\i<(B.deps.length:Int):=b0;have y0:=stAt_nat B.st A0.1
 refine gCO c0 6 [0] rfl<|sIO v0 i (i).toNat fun a0 _ _ h0 l0 _=>?_
 have z0:B.st.getD i.toNat 0=a0:=by rw [List.getD_eq_getElem?_getD,h0];rfl
 refine sMp c0 (l0.up 3 rfl) 0 (I a0)<|jOC 3 rfl<|CN a0 2 (fun m0=>jCR 8 rfl<|retT [I 0,I 20]<|(by have o0:Sat W _ (([(p, .cells #[.slice a n k, .slice sa sn sk, .slice ta tn tk] 179 (0,0))]++(c++(G++(cs++ct))))::H::F):=Sat.perm c0 (by simp);have he:startB B i=(B,0,20):=(by unfold startB;rw [if_pos b0,if_neg (by rw [y0];omega)]);exact ⟨_,by rw [he];rfl,by rw [he];exact ⟨_,_,_,ts,_,_,_,_,_,_,c,G,cs,ct,rfl,hO,hD,v0,w0,x0⟩,o0⟩)) fun m0=>gCO c0 9 [0] rfl<|sIO v0 i (i).toNat fun p0 _ _ d0 _ q0=>?_
 obtain rfl:a0=p0:=Option.some.inj (h0.symm.trans d0)
 have d1:B.st.getD i.toNat 0=a0:=by rw [List.getD_eq_getElem?_getD,d0];rfl
 refine sStF c0 v0 q0 3 (i).toNat 0 a0 3 d0 (I 3) [I 3] sizeOf3 fun _ i0 r0 e0=>gOO e0 9 [0] rfl<|sIO w0 i (i).toNat fun f0 _ _ s0 t0 _=>?_
 have i1:B.att.getD i.toNat 0=f0:=by rw [List.getD_eq_getElem?_getD,s0];rfl
 refine sMp e0 (t0.up 4 rfl) 0 (I f0)<|jOR 5 rfl<|retT [I f0,I 0] ?_
 have u0:Sat W _ (([(p, .cells #[.slice a n k, .slice sa sn sk, .slice ta tn tk] 179 (0,0))]++(c++(G++(i0++ct))))::H::F):=Sat.perm e0 (by simp)
 have he:startB B i=(⟨B.deps,B.st.set i.toNat 3,B.att⟩,B.att.getD i.toNat 0,0):=by unfold startB;rw [if_pos b0,if_pos (by rw [y0];omega)]
 exact ⟨_,by rw [he];exact congrArg (fun z=>Ending.returned (.tuple #[I z,I 0])) (by dsimp only;omega),by rw [he];exact ⟨_,_,_,ts,_,_,_,_,_,_,c,G,i0,ct,rfl,hO,hD,r0,w0,x0⟩,u0⟩
theorem r_return {p:Nat} {B:BS} {K:Int} {M:Chunk} (hB:RefR p B M) (hW:BWf B K) (i:Int) (m:Int) (hK:K<=4611686018427387904) (hS:Sat W w (M::H::F)):
  Calls prog 67 #[Pt p 0,I i,I m] w fun e w'=>∃M':Chunk,e= .returned (I (heldC B i m))/\RefR p (retB B i m) M'/\Sat W w' (M'::H::F):=by
 refine callsK 30 func67 rfl<|jCO 11 rfl<|cZ (r_held hB hW i m hS.flat1) ?_
 rintro _ _ ⟨rfl,l0⟩
 have e0:=l0.unflat1
 refine jOC 9 rfl<|CN (heldC B i m) 0 (fun b0=>jCR 8 rfl<|retT [I (heldC B i m)]<|(by have hr:retB B i m=B:=(by unfold retB;rw [if_neg b0]);exact ⟨_,rfl,by rw [hr];exact hB,e0⟩)) fun b0=>jCC 3 rfl ?_
 have G0:=b0;obtain ⟨B0,F0,z0⟩:=heldC_zero G0
 have m0:=(e0.picks [1,1])
 obtain ⟨a,n,k,ts,sa,sn,sk,ta,tn,tk,c,G,cs,ct,rfl,hO,hD,x0,w0,y0⟩:=hB
 have f0:Sat W _ ([(p, .cells #[.slice a n k, .slice sa sn sk, .slice ta tn tk] 179 (0,0))]::c::G::cs::ct::H::F):=Sat.perm m0 (by simp)
 have J0:=hO.ll;have K0:=x0.ll;have L0:=w0.ll;have C0:=congrArg List.length y0;rw [List.length_map] at C0;have N0:=hW.ls;have O0:=hW.la;have P0:=hW.n0
 have A0:0<=i/\i<(B.deps.length:Int):=B0;have M0:=stAt_nat B.st A0.1;have H0:=hW.att _ (getD_mem (q:=i.toNat) (s:=B.att) om)
 refine gCO f0 6 [0] rfl<|sIO x0 i (i).toNat fun g0 _ _ h0 _ o0=>?_
 have a1:B.st.getD i.toNat 0=g0:=by rw [List.getD_eq_getElem?_getD,h0];rfl
 refine sStF f0 x0 o0 3 (i).toNat 0 g0 2 h0 (I 2) [I 2] sizeOf3 fun _ i0 p0 c0=>gOO c0 9 [0] rfl<|sIO w0 i (i).toNat fun a0 _ _ j0 q0 _=>?_
 have f1:B.att.getD i.toNat 0=a0:=by rw [List.getD_eq_getElem?_getD,j0];rfl
 refine sMp c0 (q0.up 4 rfl) 0 (I a0)<|sAdd a0 1<|sIO w0 i (i).toNat fun r0 _ _ d0 _ s0=>?_
 obtain rfl:a0=r0:=Option.some.inj (j0.symm.trans d0)
 have j1:B.att.getD i.toNat 0=a0:=by rw [List.getD_eq_getElem?_getD,d0];rfl
 refine sStF c0 w0 s0 4 (i).toNat 0 a0 (a0+1) d0 (I (a0+1)) [I (a0+1)] sizeOf3 fun _ k0 t0 u0=>jOR 8 rfl<|retT [I 0] ?_
 have v0:Sat W _ (([(p, .cells #[.slice a n k, .slice sa sn sk, .slice ta tn tk] 179 (0,0))]++(c++(G++(i0++k0))))::H::F):=Sat.perm u0 (by simp)
 have hr:retB B i m=⟨B.deps,B.st.set i.toNat 2,B.att.set i.toNat (a0+1)⟩:=by unfold retB;rw [if_pos b0,show m=a0 by omega]
 exact ⟨_,by rw [b0];rfl,by rw [hr];exact ⟨_,_,_,ts,_,_,_,_,_,_,c,G,i0,k0,rfl,hO,hD,p0,t0,y0⟩,v0⟩
theorem open_step {s d:List Int} {j:Nat} {x:Int} (h:openB s (d.take j)=false) (hx:d[j]?=some x) (h4:stAt s x=4):openB s (d.take (j+1))=false:=by
  unfold openB at*
  rw [take_succ_at hx,List.any_append,h];simp [h4]
theorem r_open {p:Nat} {a sa ta:Option Addr} {n k sn sk tn tk:Nat} {ts:List Task} {ss:List Int} {c G cs:Chunk} (hO:OwnT encTask 51 9 a n k ts c) (hD:∀z∈ts,Task.Ok [G] z) (hOs:OwnT Go.E.encI 3 1 sa sn sk ss cs) {i:Nat} {t:Task} (ht:ts[i]?=some t) (hA:ascFrom i (-1) t.deps.l=true) (hns:n<=sn) (hS:Sat W w ([(p, .cells #[.slice a n k, .slice sa sn sk, .slice ta tn tk] 179 (0,0))]::c::G::cs::F)):
  Calls prog 178 #[Pt p 0,I (i:Int)] w fun e w'=>e= .returned (.bool (openB ss t.deps.l))/\Sat W w' ([(p, .cells #[.slice a n k, .slice sa sn sk, .slice ta tn tk] 179 (0,0))]::c::G::cs::F):=by
 have D0:=hO.ll;have E0:=hOs.ll;have B0:i<ts.length:=(List.getElem?_eq_some_iff.1 ht).1;have A0:=(hD t (List.mem_of_getElem? ht)).deps.len;have w0:=(hD t (List.mem_of_getElem? ht)).deps.le
 refine callsK 37 func178 rfl<|jCC 12 rfl<|loopF [0,1] (γ:=Nat) (fun j R=>⟨[(5,I (j:Int))],R,t.deps.n-j,j<=t.deps.n/\(openB ss (t.deps.l.take j)=false)⟩) 0 ⟨hS,om,by simp [openB]⟩ ?_
 rintro j ρ _ ⟨a0,hj,t0⟩
 refine gCO a0 9 [0] rfl<|sIO hO (i:Int) i fun j0 _ _ k0 l0 _=>?_
 obtain rfl:t=j0:=Option.some.inj (ht.symm.trans k0)
 refine pu1<|sMp a0 (l0.up 1 rfl) 6 (.slice t.deps.a t.deps.n t.deps.k)<|jOC 4 rfl<|CD ((j:Int)<(t.deps.n:Int)) (fun m0=>jCR 11 rfl<|retT [.bool false]<|(by rw [List.take_of_length_le om] at t0;exact ⟨by rw [t0];rfl,a0⟩)) fun m0=>jCC 5 rfl ?_
 obtain ⟨n0,x0,y0,c0,f0,g0,z0⟩:=OwnT.eN hO i
 obtain rfl:t=n0:=Option.some.inj (ht.symm.trans c0)
 obtain ⟨d0,a1,b1,b0,o0,p0⟩:=RdT.elem (hD t (List.mem_of_getElem? c0)).deps (j:Int)
 rw [Int.toNat_natCast] at b0
 have v0:=asc_mem hA d0 (List.mem_of_getElem? b0)
 obtain ⟨e0,c1,d1,h0,q0,r0,e1⟩:=OwnT.elem hOs d0
 refine drawF a0 [] (fb 3 0 1 1<|fb 7 0 0 1<|fq 11 6 (f0.up 1 rfl)<|fq 14 0 (o0.up 2 rfl)<|fq 16 0 (q0.up 3 rfl)<|fn) [0,1,2,4,5,6,8,12,3,7,9,10,11,13,14,15,16,17] fun _ i0=>wV 8<|wL 0<|wL 1<|wI g0<|wV 1<|wL 2<|wI p0<|wL 3<|wI r0<|wL 4<|wV 1<|wN<|jXC 1 rfl<|cN e0 4 (fun s0=>jCO 5 rfl<|sAdd (j:Int) 1<|jOI 2 rfl<|⟨j+1,od,alB,i0,om,(open_step t0 b0 (by rw [stAt_nat _ om,List.getD_eq_getElem?_getD,h0];simpa using (by omega:e0=4)))⟩) fun s0=>?_
 refine jCR 11 rfl<|retT [.bool true] ?_
 exact ⟨by rw [show openB ss t.deps.l=true from List.any_eq_true.2 ⟨d0,List.mem_of_getElem? b0,by rw [decide_eq_true_eq,stAt_nat _ om,List.getD_eq_getElem?_getD,h0];simpa using (by omega:¬e0=4)⟩];rfl,i0⟩
def stK (s:List Int) (D:List (List Int)) (k:Nat):List Int:=(List.range D.length).map fun q=>if q<k/\condB s D q=true then 2 else s.getD q 0
theorem stK_zero {s:List Int} {D:List (List Int)} (h:s.length=D.length):stK s D 0=s:=by
  unfold stK
  apply List.ext_getElem?
  intro q
  by_cases hq:q<D.length
  · exact (by rw [map_range_at hq,if_neg (by omega),List.getD_eq_getElem?_getD];have:q<s.length:=(by omega);simp only [List.getElem?_eq_getElem this,Option.getD_some])
  · rw [List.getElem?_eq_none (by simp;omega),List.getElem?_eq_none (by omega)]
theorem stK_all {s:List Int} {D:List (List Int)}:stK s D D.length=markB s D:=by
  unfold stK markB
  apply map_range
  intro q hq
  by_cases hc:condB s D q=true
  · rw [if_pos ⟨hq,hc⟩,if_pos hc]
  · rw [if_neg (fun h=>hc h.2),if_neg hc]
theorem stK_four {s:List Int} {D:List (List Int)} {k:Nat} (hl:s.length=D.length) (x:Int):stAt (stK s D k) x≠4↔stAt s x≠4:=by
 unfold stAt
 by_cases h:0<=x
 ·rw [if_pos h,if_pos h]
  by_cases h2:x.toNat<D.length
  ·unfold stK
   rw [getD_range h2]
   split
   · exact (by rename_i h3;have h4:=h3.2;simp only [condB,Bool.and_eq_true,decide_eq_true_eq] at h4;rw [h4.1];simp)
   ·exact Iff.rfl
  ·have e1:(stK s D k).getD x.toNat 0=0:=by rw [List.getD_eq_getElem?_getD,List.getElem?_eq_none (by simp [stK];omega)];rfl
   have e2:s.getD x.toNat 0=0:=by rw [List.getD_eq_getElem?_getD,List.getElem?_eq_none om];rfl
   rw [e1,e2]
 ·rw [if_neg h,if_neg h]
theorem stK_at {s:List Int} {D:List (List Int)} {k:Nat} (h:k<D.length):(stK s D k)[k]?=some (s.getD k 0):=by unfold stK;rw [map_range_at h,if_neg (by omega)]
theorem stK_y {s:List Int} {D:List (List Int)} {k:Nat} (h:condB s D k=true):(stK s D k).set k 2=stK s D (k+1):=by
  unfold stK
  rw [range_set]
  apply map_range
  intro q hq
  by_cases e:q=k
  · subst e;rw [if_pos rfl,if_pos ⟨by omega,h⟩]
  · rw [if_neg e]
    by_cases h2:q<k/\condB s D q=true
    · rw [if_pos h2,if_pos ⟨by omega,h2.2⟩]
    · rw [if_neg h2,if_neg (fun h3=>h2 ⟨by omega,h3.2⟩)]
theorem stK_n {s:List Int} {D:List (List Int)} {k:Nat} (h:condB s D k≠true):stK s D k=stK s D (k+1):=by
  unfold stK
  apply map_range
  intro q hq
  by_cases h2:q<k/\condB s D q=true
  · rw [if_pos h2,if_pos ⟨by omega,h2.2⟩]
  · rw [if_neg h2,if_neg (fun h3=>h2 ⟨by
      by_cases e:q=k
      · subst e;exact absurd h3.2 h
      · omega,h3.2⟩)]
def rdyK (s:List Int) (D:List (List Int)) (k:Nat):List Int:=((List.range k).filter (condB s D)).map fun (q:Nat)=>(q:Int)
theorem rdyK_y {s:List Int} {D:List (List Int)} {k:Nat} (h:condB s D k=true):rdyK s D k++[(k:Int)]=rdyK s D (k+1):=by
  unfold rdyK;rw [List.range_succ,List.filter_append,List.map_append];simp [h]
theorem rdyK_n {s:List Int} {D:List (List Int)} {k:Nat} (h:condB s D k≠true):rdyK s D k=rdyK s D (k+1):=by
  unfold rdyK;rw [List.range_succ,List.filter_append,List.map_append];simp [h]
theorem rdyK_len {s:List Int} {D:List (List Int)} {k:Nat}:(rdyK s D k).length<=k:=by
  unfold rdyK;rw [List.length_map];have:=List.length_filter_le (condB s D) (List.range k);simpa using this
theorem cond_y {B:BS} {K x:Int} {i j:Nat} {d:List Int} (hW:BWf B K) (hi:i<B.deps.length) (hj:j<B.deps.length) (hx:(stK (B.st.set i 4) B.deps j)[j]?=some x) (hd:B.deps[j]?=some d) (h1:x=1) (h2:openB (stK (B.st.set i 4) B.deps j) d=false):condB (B.st.set i 4) B.deps j=true:=by
  rw [stK_at hj] at hx
  rw [open_same (fun y _=>stK_four (by rw [List.length_set];exact hW.ls) y)] at h2
  unfold condB
  have a0:B.deps.getD j []=d:=by rw [List.getD_eq_getElem?_getD,hd];rfl
  rw [a0,h2,Option.some.inj hx,h1];rfl
theorem cond_n1 {B:BS} {K:Int} {i j:Nat} {d:List Int} (hW:BWf B K) (hi:i<B.deps.length) (hj:j<B.deps.length) (hd:B.deps[j]?=some d) (h2:openB (stK (B.st.set i 4) B.deps j) d=true):condB (B.st.set i 4) B.deps j≠true:=by
  rw [open_same (fun y _=>stK_four (by rw [List.length_set];exact hW.ls) y)] at h2
  unfold condB
  have a0:B.deps.getD j []=d:=by rw [List.getD_eq_getElem?_getD,hd];rfl
  rw [a0,h2];simp
theorem cond_n2 {s:List Int} {D:List (List Int)} {x:Int} {j:Nat} (hj:j<D.length) (hx:(stK s D j)[j]?=some x) (h1:x≠1):condB s D j≠true:=by
  rw [stK_at hj] at hx
  unfold condB
  rw [Option.some.inj hx,decide_eq_false h1];simp
theorem r_commit {p:Nat} {B:BS} {K:Int} {M:Chunk} (hB:RefR p B M) (hW:BWf B K) (i:Int) (m:Int) (hS:Sat W w (M::H::F)):
  Calls prog 132 #[Pt p 0,I i,I m] w fun e w'=>∃(az:Option Addr) (nz kz:Nat) (Z M':Chunk),e= .returned (.tuple #[.slice az nz kz,I (heldC B i m)])/\RdT Go.E.encI 1 [Z] az nz kz (comB B i m).2/\RefR p (comB B i m).1 M'/\Sat W w' (Z::M'::H::F):=by
 refine callsK 58 func132 rfl<|jCO 12 rfl<|cZ (r_held hB hW i m hS.flat1) ?_
 rintro _ _ ⟨rfl,q0⟩
 have h0:=q0.unflat1
 refine jOC 9 rfl<|CN (heldC B i m) 0 (fun c0=>jCR 9 rfl<|retT [nS,I (heldC B i m)]<|(by have r0:=Sat.nilc h0;have hr:comB B i m=(B,[]):=(by unfold comB;rw [if_neg c0]);exact ⟨_,_,_,[],_,rfl,by rw [hr];exact rN,by rw [hr];exact hB,r0⟩)) fun c0=>jCC 3 rfl ?_
 have F0:=c0;obtain ⟨I0,Q0,G0⟩:=heldC_zero F0
 have s0:=(h0.picks [1,1])
 obtain ⟨a,n,k,ts,sa,sn,sk,ta,tn,tk,c,G,cs,ct,rfl,hO,hD,C0,D0,E0⟩:=hB
 have i0:Sat W _ ([(p, .cells #[.slice a n k, .slice sa sn sk, .slice ta tn tk] 179 (0,0))]::c::G::cs::ct::H::F):=Sat.perm s0 (by simp)
 have T0:=hO.ll;have U0:=C0.ll;have V0:=D0.ll;have J0:=congrArg List.length E0;rw [List.length_map] at J0;have Y0:=hW.ls;have Z0:=hW.la;have f1:=hW.n0
 have H0:0<=i/\i<(B.deps.length:Int):=I0;have X0:=stAt_nat B.st H0.1;have R0:=hW.att _ (getD_mem (q:=i.toNat) (s:=B.att) om)
 refine gCO i0 6 [0] rfl<|sIO C0 i (i).toNat fun t0 _ _ u0 _ v0=>sStF i0 C0 v0 3 (i).toNat 0 t0 4 u0 (I 4) [I 4] sizeOf3 fun _ w0 x0 y0=>jOC 14 rfl<|loopF [0] (γ:=Nat×Chunk×SO) (fun ⟨j,A0,az,nz,kz,cz⟩ R=>⟨[(10,I (j:Int)),(9, .slice az nz kz)],cz::[(p, .cells #[.slice a n k, .slice sa sn sk, .slice ta tn tk] 179 (0,0))]::c::G::A0::R,n-j,j<=n/\OwnT Go.E.encI 3 1 sa sn sk (stK (B.st.set i.toNat 4) B.deps j) A0/\OwnT Go.E.encI 3 1 az nz kz (rdyK (B.st.set i.toNat 4) B.deps j) cz⟩) (0,w0,none,0,0,[]) ⟨(Sat.nilc y0),om,(by rw [stK_zero (by rw [List.length_set];omega)];exact x0),OwnT.nil fR⟩ ?_
 rintro ⟨j,A0,az,nz,kz,cz⟩ ρ _ ⟨a0,hj,z0,B0⟩
 have N0:=z0.len;have W0:=B0.ll;have P0:=rdyK_len (s:=(B.st.set i.toNat 4)) (D:=B.deps) (k:=j);have O0:(stK (B.st.set i.toNat 4) B.deps j).length=B.deps.length:=by simp [stK]
 refine gCC a0 12 [1] rfl<|CD ((j:Int)<(n:Int)) (fun a1=>jCR 13 rfl<|retT [.slice az nz kz,I 0]<|(by have b1:Sat W _ (cz::([(p, .cells #[.slice a n k, .slice sa sn sk, .slice ta tn tk] 179 (0,0))]++(c++(G++(A0++ct))))::H::F):=Sat.perm a0 (by simp);obtain rfl:j=B.deps.length:=(by omega);have hr:comB B i m=(⟨B.deps,markB (B.st.set i.toNat 4) B.deps,B.att⟩,rdyB (B.st.set i.toNat 4) B.deps):=(by unfold comB;rw [if_pos F0]);rw [stK_all] at z0;exact ⟨_,_,_,cz,_,by rw [F0];rfl,by rw [hr];exact B0.rdAt (cs:=[cz]) 0 rfl,by rw [hr];exact ⟨_,_,_,ts,_,_,_,_,_,_,c,G,A0,ct,rfl,hO,hD,z0,D0,E0⟩,b1⟩)) fun a1=>gCO a0 11 [1] rfl<|sIO z0 (j:Int) j fun b0 _ _ d0 c1 _=>sMp a0 (c1.up 4 rfl) 0 (I b0)<|pu2<|SE 41 b0 1 (fun d1=>jOO 13 rfl<|sAdd (j:Int) 1<|jOI 2 rfl<|(by have j0:condB (B.st.set i.toNat 4) B.deps j≠true:=cond_n2 om d0 om;exact ⟨(j+1,A0,az,nz,kz,cz),od,alB,a0,om,(by rw [<-stK_n j0];exact z0),(by rw [<-rdyK_n j0];exact B0)⟩)) fun d1=>pu2<|gY ?_
 have e1:=(a0.picks [4,4,4,4])
 obtain ⟨k0,l0⟩:∃t,ts[j]?=some t:=⟨ts[j]'om,List.getElem?_eq_getElem _⟩
 have e0:B.deps[j]?=some k0.deps.l:=by rw [<-E0];simp [l0]
 refine cZ (r_open hO hD z0 l0 (hW.asc _ _ e0) om e1) ?_
 rintro _ _ ⟨rfl,f0⟩
 refine jOC 4 rfl<|cBn (openB (stK (B.st.set i.toNat 4) B.deps j) k0.deps.l) (fun g0=>jCO 5 rfl<|sAdd (j:Int) 1<|jOI 2 rfl<|(by have m0:condB (B.st.set i.toNat 4) B.deps j≠true:=cond_n1 hW om om e0 (by simpa using g0);exact ⟨(j+1,A0,az,nz,kz,cz),od,alB,(f0.pick 4 rfl),om,(by rw [<-stK_n m0];exact z0),(by rw [<-rdyK_n m0];exact B0)⟩)) fun g0=>gCO f0 7 [0] rfl<|sIO z0 (j:Int) j fun g1 _ _ o0 _ h1=>?_
 obtain rfl:b0=g1:=Option.some.inj (d0.symm.trans o0)
 exact sStF f0 z0 h1 3 j 0 b0 2 o0 (I 2) [I 2] sizeOf3 fun _ i1 j1 k1=>jOO 5 rfl<|sBK k1 #[I (j:Int)] 3 fun _ _ l1=>sApp (nb:=8) l1 B0 5 (RdT.blk (enc:=Go.E.encI) (sz:=1) (xs:=[(j:Int)]) fR 1 0 rfl rfl rfl om) underlying22 (i:=Tryz.t3) kr fR fun m1 n1 o1 _ q1 r1=>jOO 6 rfl<|sAdd (j:Int) 1<|jOI 2 rfl<|(by have p0:condB (B.st.set i.toNat 4) B.deps j=true:=cond_y hW om om d0 e0 om (by simpa using g0);exact ⟨(j+1,i1,m1,(nz+1),n1,o1),od,alB,((r1.pick 5 rfl).dropAt 1 rfl),om,(by rw [<-stK_y p0];exact j1),(by rw [<-rdyK_y p0];exact q1)⟩)
end Go.Proofs.YtkadmghedmodbaaGreat

namespace Go.Proofs.YtkadmghedmodbaaGreat
open Go Go.E Go.Proofs.Tryz
set_option linter.all false
set_option maxRecDepth 100000
set_option maxHeartbeats 2000000
variable {W w:World} {H:Chunk} {F:List Chunk}
def ArR (p:Nat) (S:AS) (M:Chunk):Prop:=∃(a:Option Addr) (n k:Nat) (c:Chunk),M=[(p, .cells #[.int .i64 S.cap, .int .i64 S.used, .int .i64 S.high, .slice a n k] 164 (0,0))]++c/\OwnT Go.E.encI 3 1 a n k S.marks c/\S.Wf
theorem r1_ceil (x:Int) (y:Int) (hx:0<=x/\x<=1048576) (hy:1<=y/\y<=4096) (hS:Sat W w (H::F)):
  Ro prog 189 #[I x,I y] (I (ceilD x y)) W w (H::F):=by
 obtain ⟨d0,e0,f0,g0,h0⟩:=ceilD_bd hx hy
 exact callsK 22 func189 rfl<|jCO 11 rfl<|sD 8 (x<0) (fun a0=>jOR 13 rfl<|retT [I 0]<|(by omega)) fun a0=>jOC 5 rfl<|cD (y<1) (fun b0=>jCR 7 rfl<|retT [I 0]<|(by omega)) fun b0=>jCO 6 rfl<|sQuo x y<|jOO 8 rfl<|sRem x y<|jOC 3 rfl<|CD ((x.tmod y)>0) (fun c0=>jCR 9 rfl<|retT [I (x.tdiv y)]<|⟨by unfold ceilD;rw [if_neg om];rfl,hS⟩) fun c0=>jCO 2 rfl<|sAdd (x.tdiv y) 1<|jOR 10 rfl<|retT [I ((x.tdiv y)+1)]<|⟨by unfold ceilD;rw [if_pos om];rfl,hS⟩
theorem r1_mul {cs:List Chunk} (x y z:Int) (hx:0<=x/\x<=1048577) (hy:1<=y/\y<=4096) (hz:0<=z/\z<=1048576) (hS:Sat W w cs):
  Calls prog 188 #[I x,I y,I z] w fun e w'=>(x*y<=z/\e= .returned (.tuple #[I (x*y), .bool true])\/¬(x*y<=z)/\e= .returned (.tuple #[I 0, .bool false]))/\Sat W w' cs:=by
 have hq:0<=z.tdiv y/\z.tdiv y<=1048576:=by rw [Int.tdiv_eq_ediv_of_nonneg hz.1];exact ⟨Int.ediv_nonneg hz.1 om,by have:=Int.ediv_le_self y hz.1;omega⟩
 have f0:=mul_lim (c:=x) (a:=y) (l:=z) hx.1 hy.1 hz.1
 exact callsK 32 func188 rfl<|jCO 12 rfl<|sD 10 (x<0) (fun a0=>jOR 29 rfl<|retT [I 0, .bool false]<|⟨.inr ⟨fun h=>by have:=f0.2 h;omega,rfl⟩,hS⟩) fun a0=>pu4<|sD 14 (y<0) (fun b0=>jOR 25 rfl<|retT [I 0, .bool false]<|⟨.inr ⟨fun h=>by have:=f0.2 h;omega,rfl⟩,hS⟩) fun b0=>pu4<|sD 18 (z<0) (fun c0=>jOR 21 rfl<|retT [I 0, .bool false]<|⟨.inr ⟨fun h=>by have:=f0.2 h;omega,rfl⟩,hS⟩) fun c0=>pu3<|SD 21 (y>0) (fun d0=>jOC 13 rfl<|(by have g0:=f0.1 om;have h0:=Int.mul_nonneg hx.1 (show (0:Int)<=y by omega);exact jCO 3 rfl<|sMul x y<|jOR 5 rfl<|retT [I (x*y), .bool true]<|⟨.inl ⟨f0.1 om,rfl⟩,hS⟩)) fun d0=>pu3<|gY<|sQuo z y<|jOC 5 rfl<|cD (x>(z.tdiv y)) (fun e0=>jCR 8 rfl<|retT [I 0, .bool false]<|⟨.inr ⟨fun h=>by have:=f0.2 h;omega,rfl⟩,hS⟩) fun e0=>jCC 3 rfl<|(by have g0:=f0.1 om;have h0:=Int.mul_nonneg hx.1 (show (0:Int)<=y by omega);exact jCO 3 rfl<|sMul x y<|jOR 5 rfl<|retT [I (x*y), .bool true]<|⟨.inl ⟨f0.1 om,rfl⟩,hS⟩)
theorem r1_align {cs:List Chunk} (x y z:Int) (hx:0<=x/\x<=1048576) (hy:1<=y/\y<=4096) (hz:0<=z/\z<=1048576) (hS:Sat W w cs):
  Calls prog 177 #[I x,I y,I z] w fun e w'=>(alignI x y<=z/\e= .returned (.tuple #[I (alignI x y), .bool true])\/¬(alignI x y<=z)/\e= .returned (.tuple #[I 0, .bool false]))/\Sat W w' cs:=by
 obtain ⟨f0,g0,h0,i0,j0⟩:=ceilD_bd hx hy
 refine callsK 22 func177 rfl<|jCO 12 rfl<|sD 10 (x<0) (fun c0=>jOR 14 rfl<|retT [I 0, .bool false]<|(by omega)) fun c0=>jOC 5 rfl<|cD (y<1) (fun d0=>jCR 8 rfl<|retT [I 0, .bool false]<|(by omega)) fun d0=>jCO 6 rfl<|cS (r1_ceil x y (od) (od) hS.flat) fun _ e0=>pu2<|cZ (r1_mul (ceilD x y) y z om om om e0) ?_
 rintro _ _ ⟨⟨a0,rfl⟩|⟨a0,rfl⟩,b0⟩
 rotate_left
 ·exact jOR 7 rfl<|retT [I 0, .bool false]<|⟨.inr ⟨a0,rfl⟩,b0⟩
 exact jOR 7 rfl<|retT [I ((ceilD x y)*y), .bool true]<|⟨.inl ⟨a0,rfl⟩,b0⟩
theorem ar_mark {p:Nat} {S:AS} {M:Chunk} (hR:ArR p S M) (hS:Sat W w (M::H::F)):
  Calls prog 129 #[Pt p 0] w fun e w'=>∃M':Chunk,e= .returned (I (if 1024<=S.marks.length then 19 else 0))/\ArR p (markA S) M'/\Sat W w' (M'::H::F):=by
 obtain ⟨a,n,k,c,rfl,hO,hW⟩:=hR
 have hS:Sat W _ ([(p, .cells #[I S.cap,I S.used,I S.high, .slice a n k] 164 (0,0))]::c::H::F):=Sat.perm hS (by simp)
 have hn:=hO.ll;have l0:=hW.c;have m0:=hW.u;have n0:=hW.h
 refine callsK 24 func129 rfl<|gCC hS 26 [0] rfl<|cD ((n:Int)>=1024) (fun b0=>jCR 7 rfl<|retT [I 19]<|(by have c0:=(hS.merge2);have he:markA S=S:=(by unfold markA;rw [if_pos om]);exact ⟨_,by rw [if_pos om];rfl,by rw [he];exact ⟨_,_,_,_,rfl,hO,hW⟩,c0⟩)) fun b0=>jCC 3 rfl<|drawF hS [9,10,13] (fb 4 0 3 1<|fb 8 0 1 1<|fn) [0,1,2,3,5,6,7,4,8,9,10,11,12,13] fun _ d0=>wV 7<|wL 0<|wL 1<|wO rfl<|sBK d0 #[I S.used] 3 fun _ _ a0=>nZ a0 [1]<|wO rfl<|sApp (nb:=8) a0 hO 2 (RdT.blk (enc:=Go.E.encI) (sz:=1) (xs:=[S.used]) fR 1 0 rfl rfl rfl om) underlying22 (i:=Tryz.t3) kr fR fun e0 f0 _ _ g0 h0=>nA<|wV 2<|wO rfl<|tWk h0 1 rfl 3 (.slice e0 (n+1) f0) fun _ i0=>nA<|wN<|jXR 7 rfl<|retT [I 0] ?_
 have j0:=(i0.dropAt 0 rfl)
 have k0:=(j0.merge2)
 have he:markA S={S with marks:=S.marks++[S.used]}:=by unfold markA;rw [if_neg om]
 exact ⟨_,by rw [if_neg om];rfl,by rw [he];exact ⟨_,_,_,_,rfl,g0,⟨hW.c,hW.u,hW.h,by intro x hx;rcases List.mem_append.1 hx with h|h;exact hW.m x h;rw [List.mem_singleton.1 h];exact ⟨hW.u.1,hW.h.1⟩⟩⟩,k0⟩
theorem ar_alloc {p:Nat} {S:AS} {M:Chunk} (hR:ArR p S M) (x:Int) (y:Int) (hS:Sat W w (M::H::F)):
  Calls prog 130 #[Pt p 0,I x,I y] w fun e w'=>∃(M':Chunk) (v:Int),e= .returned (.tuple #[I v,I (allocC S x y)])/\ArR p (allocA S x y) M'/\Sat W w' (M'::H::F):=by
 obtain ⟨a,n,k,c,rfl,hO,hW⟩:=hR
 have hS:Sat W _ ([(p, .cells #[I S.cap,I S.used,I S.high, .slice a n k] 164 (0,0))]::c::H::F):=Sat.perm hS (by simp)
 have hn:=hO.ll;have t0:=hW.c;have u0:=hW.u;have v0:=hW.h
 refine callsK 70 func130 rfl<|jCO 22 rfl<|sD 14 (x<1) (fun b0=>jOR 22 rfl<|retT [I 0,I 2]<|(by have hc:allocC S x y=2:=(by unfold allocC;rw [if_pos om]);have c0:=(hS.merge2);have he:allocA S x y=S:=(by unfold allocA;rw [hc,if_neg (by decide)]);exact ⟨_,_,by rw [hc];rfl,by rw [he];exact ⟨_,_,_,_,rfl,hO,hW⟩,c0⟩)) fun b0=>pu4<|sD 18 (x>1048576) (fun d0=>jOR 18 rfl<|retT [I 0,I 2]<|(by have hc:allocC S x y=2:=(by unfold allocC;rw [if_pos om]);have e0:=(hS.merge2);have he:allocA S x y=S:=(by unfold allocA;rw [hc,if_neg (by decide)]);exact ⟨_,_,by rw [hc];rfl,by rw [he];exact ⟨_,_,_,_,rfl,hO,hW⟩,e0⟩)) fun d0=>pu4<|sD 22 (y<1) (fun f0=>jOR 14 rfl<|retT [I 0,I 2]<|(by have hc:allocC S x y=2:=(by unfold allocC;rw [if_pos om]);have g0:=(hS.merge2);have he:allocA S x y=S:=(by unfold allocA;rw [hc,if_neg (by decide)]);exact ⟨_,_,by rw [hc];rfl,by rw [he];exact ⟨_,_,_,_,rfl,hO,hW⟩,g0⟩)) fun f0=>jOC 5 rfl<|cD (y>4096) (fun h0=>jCR 8 rfl<|retT [I 0,I 2]<|(by have hc:allocC S x y=2:=(by unfold allocC;rw [if_pos om]);have i0:=(hS.merge2);have he:allocA S x y=S:=(by unfold allocA;rw [hc,if_neg (by decide)]);exact ⟨_,_,by rw [hc];rfl,by rw [he];exact ⟨_,_,_,_,rfl,hO,hW⟩,i0⟩)) fun h0=>jCC 3 rfl<|drawF hS [9] (fb 3 0 1 1<|fb 8 0 0 1<|fn) [0,1,2,4,5,6,7,3,8,9,10,11,12,13,14] fun _ j0=>wV 7<|wL 0<|wL 1<|wO rfl ?_
 have s0:=align_nn (u:=S.used) (a:=y) om om
 refine cZ (r1_align S.used y S.cap om om om j0) ?_
 rintro _ _ ⟨⟨k0,rfl⟩|⟨k0,rfl⟩,a0⟩
 rotate_left
 · exact nA<|wV 1<|wV 1<|wV 1<|wV 2<|wN<|jXR 27 rfl<|retT [I 0,I 19]<|(by have hc:allocC S x y=19:=(by unfold allocC;rw [if_neg om,if_neg om]);have l0:=(a0.merge2);have he:allocA S x y=S:=(by unfold allocA;rw [hc,if_neg (by decide)]);exact ⟨_,_,by rw [hc];rfl,by rw [he];exact ⟨_,_,_,_,rfl,hO,hW⟩,l0⟩)
 refine nA<|wV 1<|wV 1<|wV 1<|wV 2<|wN<|gXO a0 13 [0] rfl<|gY<|sSub S.cap (alignI S.used y)<|jOC 4 rfl<|cD (x>(S.cap-(alignI S.used y))) (fun m0=>jCR 8 rfl<|retT [I 0,I 19]<|(by have hc:allocC S x y=19:=(by unfold allocC;rw [if_neg om,if_neg om]);have n0:=(a0.merge2);have he:allocA S x y=S:=(by unfold allocA;rw [hc,if_neg (by decide)]);exact ⟨_,_,by rw [hc];rfl,by rw [he];exact ⟨_,_,_,_,rfl,hO,hW⟩,n0⟩)) fun m0=>jCO 7 rfl<|sAdd (alignI S.used y) x<|pu2<|tWk a0 0 rfl 1 (I ((alignI S.used y)+x)) fun _ o0=>jOC 3 rfl<|drawF o0 [12] (fb 4 0 2 1<|fb 8 0 1 1<|fn) [0,1,2,3,5,6,7,4,8,9,10,11,12] fun _ p0=>wV 7<|wL 0<|wL 1<|wY (I (max S.high ((alignI S.used y)+x))) rfl (fun w _=>Y_max2 S.high ((alignI S.used y)+x) rfl rfl kr kr)<|wV 2<|wO rfl<|tWk p0 0 rfl 2 (I (max S.high ((alignI S.used y)+x))) fun _ q0=>nA<|wN<|jXR 9 rfl<|retT [I (alignI S.used y),I 0] ?_
 have hc:allocC S x y=0:=by unfold allocC;rw [if_neg om,if_pos om]
 have r0:=(q0.merge2)
 have he:allocA S x y={S with used:=alignI S.used y+x,high:=(max S.high ((alignI S.used y)+x))}:=by unfold allocA;rw [if_pos hc]
 exact ⟨_,_,by rw [hc];rfl,by rw [he];exact ⟨_,_,_,_,rfl,hO,⟨hW.c,by dsimp only;omega,by dsimp only;omega,fun z hz=>⟨(hW.m z hz).1,by have h:=(hW.m z hz).2;dsimp only;omega⟩⟩⟩,r0⟩
theorem ar_release {p:Nat} {S:AS} {M:Chunk} (hR:ArR p S M) (hS:Sat W w (M::H::F)):
  Calls prog 133 #[Pt p 0] w fun e w'=>∃(M':Chunk) (v:Int),e= .returned (I v)/\ArR p (relA S) M'/\Sat W w' (M'::H::F):=by
 obtain ⟨a,n,k,c,rfl,hO,hW⟩:=hR
 have hS:Sat W _ ([(p, .cells #[I S.cap,I S.used,I S.high, .slice a n k] 164 (0,0))]::c::H::F):=Sat.perm hS (by simp)
 have hn:=hO.ll;have q0:=hW.c;have r0:=hW.u;have s0:=hW.h
 refine callsK 42 func133 rfl<|gCC hS 20 [0] rfl<|cE (n:Int) 0 (fun c0=>jCR 7 rfl<|retT [I 20]<|(by have d0:=(hS.merge2);have he:relA S=S:=(by unfold relA;rw [List.getLast?_eq_none_iff.2 (List.length_eq_zero_iff.1 om)]);exact ⟨_,_,rfl,by rw [he];exact ⟨_,_,_,_,rfl,hO,hW⟩,d0⟩)) fun c0=>?_
 refine jCC 3 rfl ?_
 obtain ⟨a0,m0,n0,b0,e0,f0,o0⟩:=OwnT.elem hO ((n:Int)-1)
 refine drawF hS [15] (fb 4 0 3 1<|fb 8 0 3 1<|fq 12 0 (e0.up 1 rfl)<|fn) [0,1,2,3,5,6,7,4,8,9,10,11,12,13,14,15] fun _ g0=>wV 7<|wL 0<|wL 1<|wV 1<|wSub (n:Int) 1<|wI f0<|wL 2<|wV 2<|wO rfl<|tWk g0 0 rfl 1 (I a0) fun _ h0=>nA<|wN<|jXC 2 rfl<|drawF h0 [14] (fb 4 0 3 1<|fb 8 0 3 1<|fn) [0,1,2,3,5,6,7,4,8,9,10,11,12,13,14] fun _ i0=>wV 7<|wL 0<|wL 1<|wV 1<|wSub (n:Int) 1 ?_
 have j0:=hO.part (lo:=0) (hi:=(((n:Int)-1)).toNat) om om
 refine wY (.slice (partAddr a k 0 1) ((((n:Int)-1)).toNat-0) (k-0)) rfl (fun w _=>Y_sl (a:=a) (len:=n) (cap:=k) none (some ((n:Int)-1)) 0 ((((n:Int)-1)).toNat) runUnderlying22 sizeOf3 rfl ⟨om,om⟩ om om)<|wV 2<|wO rfl<|tWk i0 0 rfl 3 (.slice (partAddr a k 0 1) ((((n:Int)-1)).toNat-0) (k-0)) fun _ k0=>nA<|wN<|jXR 7 rfl<|retT [I 0] ?_
 have p0:S.marks.getLast?=some a0:=by rw [List.getLast?_eq_getElem?,<-b0];congr 1;omega
 have l0:=(k0.merge2)
 have he:relA S={S with used:=a0,marks:=((S.marks.drop 0).take ((((n:Int)-1)).toNat-0))}:=by unfold relA;rw [p0];simp only [List.drop_zero,List.dropLast_eq_take];congr 2;omega
 exact ⟨_,_,rfl,by rw [he];exact ⟨_,_,_,_,rfl,j0,⟨hW.c,by have h:=hW.m _ (List.mem_of_getElem? b0);dsimp only;omega,⟨(hW.m _ (List.mem_of_getElem? b0)).2,hW.h.2⟩,fun z hz=>hW.m z (List.mem_of_mem_drop (List.mem_of_mem_take hz))⟩⟩,l0⟩
theorem ar_reset {p:Nat} {S:AS} {M:Chunk} (hR:ArR p S M) (hS:Sat W w (M::H::F)):
  Calls prog 69 #[Pt p 0] w fun e w'=>∃M':Chunk,e= .returned (.tuple #[])/\ArR p (resetA S) M'/\Sat W w' (M'::H::F):=by
 obtain ⟨a,n,k,c,rfl,hO,hW⟩:=hR
 have hS:Sat W _ ([(p, .cells #[I S.cap,I S.used,I S.high, .slice a n k] 164 (0,0))]::c::H::F):=Sat.perm hS (by simp)
 have hn:=hO.ll;have e0:=hW.c;have f0:=hW.u;have g0:=hW.h
 exact callsK 10 func69 rfl<|jCO 12 rfl<|tWk hS 0 rfl 1 (I 0) fun _ a0=>pu2<|tWk a0 0 rfl 3 (nS) fun _ b0=>nilO<|ret0n rfl<|(by have c0:=(b0.dropAt 1 rfl);have d0:Sat W _ (([(p, .cells #[I S.cap,I 0,I S.high,nS] 164 (0,0))]++([]:Chunk))::H::F):=Sat.perm (show Sat W _ ([(p, .cells #[I S.cap,I 0,I S.high,nS] 164 (0,0))]::H::F) from c0) (by simp);have he:resetA S=⟨S.cap,0,S.high,[]⟩:=rfl;exact ⟨_,rfl,by rw [he];exact ⟨_,_,_,_,rfl,OwnT.nil fR,⟨hW.c,by dsimp only;omega,by dsimp only;omega,fun x hx=>by cases hx⟩⟩,d0⟩)
theorem ar_used {p:Nat} {S:AS} {M:Chunk} (hR:ArR p S M) (hS:Sat W w (M::H::F)):
    Calls prog 131 #[.pointer (some ⟨p,0,none⟩)] w fun e w'=>e= .returned (.int .i64 S.used)/\Sat W w' (M::H::F):=by
  obtain ⟨a,n,k,c,rfl,hO,hW⟩:=hR
  have hS:Sat W _ ([(p, .cells #[.int .i64 S.cap, .int .i64 S.used, .int .i64 S.high, .slice a n k] 164 (0,0))]::c::H::F):=Sat.perm hS (by simp)
  have hn:=hO.ll;have a0:=hW.c;have b0:=hW.u;have c0:=hW.h
  exact callsK 9 func131 rfl<|gCR hS 25 [0] rfl<|retT [.int .i64 S.used]<|⟨rfl,(hS.merge2)⟩
theorem ar_high {p:Nat} {S:AS} {M:Chunk} (hR:ArR p S M) (hS:Sat W w (M::H::F)):
    Calls prog 115 #[.pointer (some ⟨p,0,none⟩)] w fun e w'=>e= .returned (.int .i64 S.high)/\Sat W w' (M::H::F):=by
  obtain ⟨a,n,k,c,rfl,hO,hW⟩:=hR
  have hS:Sat W _ ([(p, .cells #[.int .i64 S.cap, .int .i64 S.used, .int .i64 S.high, .slice a n k] 164 (0,0))]::c::H::F):=Sat.perm hS (by simp)
  have hn:=hO.ll;have a0:=hW.c;have b0:=hW.u;have c0:=hW.h
  exact callsK 9 func115 rfl<|gCR hS 25 [0] rfl<|retT [.int .i64 S.high]<|⟨rfl,(hS.merge2)⟩
theorem r22_new {cs:List Chunk} (c:Int) (hc:0<=c/\c<=1048576) (hS:Sat W w cs):
  Calls prog 47 #[I c] w fun e w'=>∃(p:Nat) (M:Chunk),e= .returned (.tuple #[Pt p 0,I 0])/\ArR p ⟨c,0,0,[]⟩ M/\Sat W w' (M::cs):=by
 exact callsK 13 func47 rfl<|jCO 12 rfl<|sD 6 (c<0) (fun a0=>jOR 14 rfl<|retT [.pointer none,I 2]<|(by omega)) fun a0=>jOC 5 rfl<|cD (c>1048576) (fun b0=>jCR 8 rfl<|retT [.pointer none,I 2]<|(by omega)) fun b0=>jCO 6 rfl<|sBx hS [I c,I 0,I 0,nS] fun c0 _ d0=>jOR 5 rfl<|retT [Pt c0 0,I 0]<|⟨_,_,rfl,⟨_,_,_,[],rfl,OwnT.nil fR,⟨hc,by dsimp only;omega,by dsimp only;omega,fun x hx=>by cases hx⟩⟩,d0⟩
def DqR (p:Nat) (S:DS) (M:Chunk):Prop:=∃(a:Option Addr) (n k:Nat) (c:Chunk),M=[(p, .cells #[.int .i64 S.cap, .slice a n k] 166 (0,0))]++c/\OwnT encRef 61 2 a n k S.l c/\S.Wf
theorem r23_without (al:Option Addr) (nl kl:Nat) (l:List Ref) (j:Int) (hl:RdT encRef 2 [H] al nl kl l) (hlb:l.length<=4096) (hS:Sat W w (H::F)):
  Calls prog 121 #[.slice al nl kl,I j] w fun e w'=>∃(az:Option Addr) (nz kz:Nat) (G:Chunk),e= .returned (.slice az nz kz)/\OwnT encRef 61 2 az nz kz (without j l) G/\Sat W w' (G::H::F):=by
 have w0:=hl.ll
 refine callsK 28 func121 rfl<|jCC 17 rfl<|loopF [0,1] (γ:=Nat×(List Ref)×SO) (fun ⟨i,zs,r0,f0,s0,t0⟩ R=>⟨[(6,I (i:Int)),(5, .slice r0 f0 s0)],t0::R,nl-i,i<=nl/\(zs=without j (l.take i))/\(zs.length<=i)/\OwnT encRef 61 2 r0 f0 s0 zs t0⟩) (0,[],none,0,0,[]) ⟨(Sat.nilc hS),om,rfl,by simp,(OwnT.nil (enc:=encRef) (E:=61) (sz:=2) fR)⟩ ?_
 rintro ⟨i,zs,r0,f0,s0,t0⟩ ρ _ ⟨b0,hi,hz,x0,e0⟩
 have u0:=e0.ll
 refine jCC 9 rfl<|CD ((i:Int)<(nl:Int)) (fun g0=>jCR 12 rfl<|retT [.slice r0 f0 s0]<|(by have hl:zs=without j l:=(by rw [hz,List.take_of_length_le om]);have v0:=e0;rw [hl] at v0;exact ⟨_,_,_,_,rfl,v0,b0⟩)) fun g0=>jCO 8 rfl<|sIN hl i fun a0 _ _ c0 h0=>pu1<|sMp b0 (h0.up 1 rfl) 0 (I a0.job)<|jOC 4 rfl<|cN a0.job j (fun i0=>jCO 5 rfl<|sAdd (i:Int) 1<|jOI 2 rfl<|⟨(i+1,zs,r0,f0,s0,t0),od,alB,b0,om,(without_n hz c0 om),(by first|omega|(simp;omega)),e0⟩) fun i0=>jCO 4 rfl<|sIN hl i fun j0 _ _ d0 k0=>?_
 obtain rfl:a0=j0:=Option.some.inj (c0.symm.trans d0)
 exact sMA b0 (k0.up 1 rfl) 0 [I a0.job,I a0.task]<|sBK b0 #[I a0.job,I a0.task] 61 fun _ _ l0=>sApp (nb:=16) l0 e0 1 (RdT.blk (enc:=encRef) (sz:=2) (xs:=[(⟨a0.job,a0.task⟩:Ref)]) fR 1 0 rfl rfl rfl om) underlying125 (i:=Tryz.t61) kr fR fun m0 n0 o0 _ p0 q0=>jOO 6 rfl<|sAdd (i:Int) 1<|jOI 2 rfl<|⟨(i+1,(zs++[(⟨a0.job,a0.task⟩:Ref)]),m0,(f0+1),n0,o0),od,alB,(q0.dropAt 0 rfl),om,(without_y hz c0 om),(by first|omega|(simp;omega)),p0⟩
theorem dq_len {p:Nat} {S:DS} {M:Chunk} (hR:DqR p S M) (hS:Sat W w (M::H::F)):
    Calls prog 143 #[.pointer (some ⟨p,0,none⟩)] w fun e w'=>e= .returned (.int .i64 (S.l.length:Int))/\Sat W w' (M::H::F):=by
  obtain ⟨a,n,k,c,rfl,hO,hW⟩:=hR
  have hS:Sat W _ ([(p, .cells #[.int .i64 S.cap, .slice a n k] 166 (0,0))]::c::H::F):=Sat.perm hS (by simp)
  have hn:=hO.len;have hl:=hO.le;have a0:=hW.c;have b0:=hW.n
  exact callsK 10 func143 rfl<|gCR hS 26 [0] rfl<|retT [.int .i64 (n:Int)]<|⟨by rw [hn];rfl,(hS.merge2)⟩
theorem dq_push {p:Nat} {S:DS} {M:Chunk} (hR:DqR p S M) (r:Ref) (hS:Sat W w (M::H::F)):
  Calls prog 134 #[Pt p 0, .agg #[I r.job,I r.task]] w fun e w'=>∃M':Chunk,e= .returned (I (pushC S))/\DqR p (pushD S r) M'/\Sat W w' (M'::H::F):=by
 obtain ⟨a,n,k,c,rfl,hO,hW⟩:=hR
 have hS:Sat W _ ([(p, .cells #[I S.cap, .slice a n k] 166 (0,0))]::c::H::F):=Sat.perm hS (by simp)
 have hn:=hO.ll;have p0:=hW.c;have q0:=hW.n
 refine callsK 34 func134 rfl<|jCO 2 rfl<|sBx hS [I r.job,I r.task] fun _ _ c0=>gOC c0 17 [1] rfl<|cE S.cap 0 (fun f0=>jCR 7 rfl<|retT [I 20]<|(by omega)) fun f0=>jCC 4 rfl<|drawF c0 [] (fb 3 1 1 1<|fb 8 1 0 1<|fn) [0,1,2,5,6,7,3,4,8,9] fun _ d0=>wV 6<|wL 0<|wV 1<|wL 1<|wV 1<|wN<|jXC 1 rfl<|cD ((n:Int)>=S.cap) (fun g0=>jCR 7 rfl<|retT [I 19]<|(by have hc:pushC S=19:=(by unfold pushC;rw [if_pos om]);have h0:=(d0.dropAt 0 rfl);have i0:=(h0.merge2);have he:pushD S r=S:=(by unfold pushD;rw [hc,if_neg (by decide)]);exact ⟨_,by rw [hc];rfl,by rw [he];exact ⟨_,_,_,_,rfl,hO,hW⟩,i0⟩)) fun g0=>jCC 3 rfl<|drawF d0 [6,7,10] (fb 4 1 1 1<|fb 5 0 0 2<|fn) [0,1,2,3,4,5,6,7,8,9,10] fun _ j0=>wV 4<|wL 0<|wG 1 2<|wO rfl<|sBK j0 #[I r.job,I r.task] 61 fun _ _ e0=>nZ e0 [2]<|wO rfl<|sApp (nb:=16) e0 hO 3 (RdT.blk (enc:=encRef) (sz:=2) (xs:=[(⟨r.job,r.task⟩:Ref)]) fR 1 0 rfl rfl rfl om) underlying125 (i:=Tryz.t61) kr fR fun a0 b0 _ _ k0 l0=>nA<|wV 2<|wO rfl<|sT l0 2 1 (.slice a0 (n+1) b0) [.slice a0 (n+1) b0] #[I S.cap, .slice a0 (n+1) b0] sizeOf125 fun _ m0=>nA<|wN<|jXR 7 rfl<|retT [I 0] ?_
 have hc:pushC S=0:=by unfold pushC;rw [if_neg om]
 have n0:=(m0.drops [0,0])
 have o0:=(n0.merge2)
 have he:pushD S r={S with l:=S.l++[r]}:=by unfold pushD;rw [if_pos hc]
 exact ⟨_,by rw [hc];rfl,by rw [he];exact ⟨_,_,_,_,rfl,k0,⟨hW.c,by simp only [List.length_append,List.length_singleton];omega⟩⟩,o0⟩
theorem dq_pop {p:Nat} {S:DS} {M:Chunk} (hR:DqR p S M) (hS:Sat W w (M::H::F)):
  Calls prog 136 #[Pt p 0] w fun e w'=>(S.l=[]/\e= .returned (.tuple #[.agg #[I 0,I 0], .bool false])/\Sat W w' (M::H::F))\/(∃(x:Ref) (M':Chunk),S.l.getLast?=some x/\e= .returned (.tuple #[.agg #[I x.job,I x.task], .bool true])/\DqR p {S with l:=S.l.dropLast} M'/\Sat W w' (M'::H::F)):=by
 obtain ⟨a,n,k,c,rfl,hO,hW⟩:=hR
 have hS:Sat W _ ([(p, .cells #[I S.cap, .slice a n k] 166 (0,0))]::c::H::F):=Sat.perm hS (by simp)
 have hn:=hO.ll;have p0:=hW.c;have x0:=hW.n
 refine callsK 36 func136 rfl<|jCO 2 rfl<|sAlloc hS zeroValue61 fun i0 _ j0=>jOO 7 rfl ?_
 have k0:=(j0.picks [2,2])
 refine cZ (dq_len ⟨_,_,_,_,rfl,hO,hW⟩ (Sat.flat1 (k0.merge2))) ?_
 rintro _ _ ⟨rfl,m0⟩
 have d0:Sat W _ ([(p, .cells #[I S.cap, .slice a n k] 166 (0,0))]::c::[(i0, .cells #[I 0,I 0] 61 (0,0))]::H::F):=Sat.perm (Sat.unflat1 m0) (by simp [Value.cells])
 refine jOC 3 rfl<|cE (S.l.length:Int) 0 (fun n0=>jCO 3 rfl<|sTk d0 2 rfl [I 0,I 0] fun _ e0=>jOR 5 rfl<|retD e0 2 [I 0,I 0] (.bool false)<|(by have o0:=(e0.dropAt 2 rfl);exact .inl ⟨List.length_eq_zero_iff.1 om,rfl,(o0.merge2)⟩)) fun n0=>jCC 3 rfl ?_
 obtain ⟨a0,a1,b1,q0,c0,r0,c1⟩:=OwnT.elem hO ((n:Int)-1)
 refine drawF d0 [12,13] (fb 3 0 1 1<|fb 7 0 1 1<|fp 11 (c0.up 1 rfl)<|fn) [0,1,2,4,5,6,3,7,8,9,10,11,12,13] fun _ s0=>wV 6<|wL 0<|wL 1<|wV 1<|wSub (n:Int) 1<|wI r0<|wG 2 2<|wO rfl<|sAlloc s0 zeroValue61 fun _ _ b0=>nilO ⟨⟨cI b0 1,cI b0 1, .inr ((c0.up 2 rfl).cell b0 (k:=0) rfl), .inr ((c0.up 2 rfl).cell b0 (k:=1) rfl),trivial⟩,?_⟩
 refine wO rfl<|sTk b0 0 rfl [I a0.job,I a0.task] fun _ t0=>nA<|wN<|jXC 2 rfl<|drawF t0 [14] (fb 4 1 1 1<|fb 8 1 1 1<|fn) [0,1,2,3,5,6,7,4,8,9,10,11,12,13,14] fun _ u0=>wV 7<|wL 0<|wL 1<|wV 1<|wSub (n:Int) 1 ?_
 have f0:=hO.part (lo:=0) (hi:=(((n:Int)-1)).toNat) om om
 refine wY (.slice (partAddr a k 0 2) ((((n:Int)-1)).toNat-0) (k-0)) rfl (fun w _=>Y_sl (a:=a) (len:=n) (cap:=k) none (some ((n:Int)-1)) 0 ((((n:Int)-1)).toNat) runUnderlying125 sizeOf61 rfl ⟨om,om⟩ om om)<|wV 2<|wO rfl<|sT u0 1 1 (.slice (partAddr a k 0 2) ((((n:Int)-1)).toNat-0) (k-0)) [.slice (partAddr a k 0 2) ((((n:Int)-1)).toNat-0) (k-0)] #[I S.cap, .slice (partAddr a k 0 2) ((((n:Int)-1)).toNat-0) (k-0)] sizeOf125 fun _ g0=>nA<|wN<|gXO g0 4 [200] rfl<|sTk g0 3 rfl [I a0.job,I a0.task] fun _ h0=>jOR 4 rfl<|retD h0 3 [I a0.job,I a0.task] (.bool true) ?_
 have v0:=(h0.drops [0,2])
 have w0:=(v0.merge2)
 have l0:S.l.getLast?=some a0:=by rw [List.getLast?_eq_getElem?,<-q0];congr 1;omega
 have he:S.l.dropLast=((S.l.drop 0).take ((((n:Int)-1)).toNat-0)):=by simp only [List.drop_zero,List.dropLast_eq_take];congr 1;omega
 exact .inr ⟨_,_,l0,rfl,by rw [he];exact ⟨_,_,_,_,rfl,f0,⟨hW.c,by have:=f0.len;dsimp only;omega⟩⟩,w0⟩
theorem dq_steal {p:Nat} {S:DS} {M:Chunk} (hR:DqR p S M) (hS:Sat W w (M::H::F)):
  Calls prog 139 #[Pt p 0] w fun e w'=>(S.l=[]/\e= .returned (.tuple #[.agg #[I 0,I 0], .bool false])/\Sat W w' (M::H::F))\/(∃(x:Ref) (M':Chunk),S.l.head?=some x/\e= .returned (.tuple #[.agg #[I x.job,I x.task], .bool true])/\DqR p {S with l:=S.l.tail} M'/\Sat W w' (M'::H::F)):=by
 obtain ⟨a,n,k,c,rfl,hO,hW⟩:=hR
 have hS:Sat W _ ([(p, .cells #[I S.cap, .slice a n k] 166 (0,0))]::c::H::F):=Sat.perm hS (by simp)
 have hn:=hO.ll;have p0:=hW.c;have u0:=hW.n
 refine callsK 25 func139 rfl<|jCO 2 rfl<|sAlloc hS zeroValue61 fun i0 _ j0=>jOO 7 rfl ?_
 have k0:=(j0.picks [2,2])
 refine cZ (dq_len ⟨_,_,_,_,rfl,hO,hW⟩ (Sat.flat1 (k0.merge2))) ?_
 rintro _ _ ⟨rfl,m0⟩
 have b0:Sat W _ ([(p, .cells #[I S.cap, .slice a n k] 166 (0,0))]::c::[(i0, .cells #[I 0,I 0] 61 (0,0))]::H::F):=Sat.perm (Sat.unflat1 m0) (by simp [Value.cells])
 refine jOC 3 rfl<|cE (S.l.length:Int) 0 (fun n0=>jCO 3 rfl<|sTk b0 2 rfl [I 0,I 0] fun _ e0=>jOR 5 rfl<|retD e0 2 [I 0,I 0] (.bool false)<|(by have o0:=(e0.dropAt 2 rfl);exact .inl ⟨List.length_eq_zero_iff.1 om,rfl,(o0.merge2)⟩)) fun n0=>gCO b0 8 [0] rfl<|sIO hO 0 0 fun a0 _ _ q0 r0 _=>sMA b0 (r0.up 1 rfl) 0 [I a0.job,I a0.task]<|sAlloc b0 zeroValue61 fun _ _ s0=>sTk s0 0 rfl [I a0.job,I a0.task] fun _ f0=>gOO f0 9 [1] rfl<|sSl (some 1) none 1 n runUnderlying125 sizeOf61 ⟨by decide,rfl⟩ rfl om om ?_ (a:=a) (len:=n) (cap:=k)
 have t0:=hO.part (lo:=1) (hi:=n) om om
 refine sApp (nb:=16) (Sat.nilc f0) (OwnT.nil (enc:=encRef) (E:=61) (sz:=2) fR) 0 (t0.rdAt 3 rfl) underlying125 (i:=Tryz.t61) kr fR fun c0 d0 _ _ w0 x0=>pu2<|sT x0 2 1 (.slice c0 (0+(n-1)) d0) [.slice c0 (0+(n-1)) d0] #[I S.cap, .slice c0 (0+(n-1)) d0] sizeOf125 fun _ g0=>gOO g0 5 [201] rfl<|sTk g0 4 rfl [I a0.job,I a0.task] fun _ h0=>jOR 4 rfl<|retD h0 4 [I a0.job,I a0.task] (.bool true) ?_
 have y0:=((h0.pick 2 rfl).drops [2,2,2])
 have z0:=(y0.merge2)
 have l0:S.l.head?=some a0:=by rw [List.head?_eq_getElem?];exact q0
 have he:S.l.tail=([]++((S.l.drop 1).take (n-1))):=by rw [<-List.drop_one];simp;exact (List.take_of_length_le (by simp;omega)).symm
 exact .inr ⟨_,_,l0,rfl,by rw [he];exact ⟨_,_,_,_,rfl,w0,⟨hW.c,by rw [<-he,List.length_tail];dsimp only;omega⟩⟩,z0⟩
theorem dq_remove {p:Nat} {S:DS} {M:Chunk} (hR:DqR p S M) (j:Int) (hS:Sat W w (M::H::F)):
  Calls prog 75 #[Pt p 0,I j] w fun e w'=>∃(M':Chunk) (v:Int),e= .returned (I v)/\DqR p ({S with l:=without j S.l}) M'/\Sat W w' (M'::H::F):=by
 obtain ⟨a,n,k,c,rfl,hO,hW⟩:=hR
 have hS:Sat W _ ([(p, .cells #[I S.cap, .slice a n k] 166 (0,0))]::c::H::F):=Sat.perm hS (by simp)
 have hn:=hO.ll;have j0:=hW.c;have k0:=hW.n
 refine callsK 29 func75 rfl<|gCO hS 33 [0,0] rfl<|cZ (r23_without a n k S.l j (RdT.flat (hO.rdAt 1 (by rfl))) (od) hS.flat) ?_
 rintro _ _ ⟨b0,a0,c0,_,rfl,d0,f0⟩
 have g0:=f0.unflat1
 have i0:=d0.ll
 exact pu2<|sT g0 1 1 (.slice b0 a0 c0) [.slice b0 a0 c0] #[I S.cap, .slice b0 a0 c0] sizeOf125 fun _ e0=>gOO e0 10 [1] rfl<|sSub (n:Int) (a0:Int)<|jOX 2 rfl<|(by have l0:=without_len j S.l;exact jXR 2 rfl<|retT [I ((n:Int)-(a0:Int))]<|(by have h0:=((e0.pick 1 rfl).dropAt 2 rfl);exact ⟨_,_,rfl,⟨_,_,_,_,rfl,d0,⟨hW.c,by have:=without_len j S.l;dsimp only;omega⟩⟩,(h0.merge2)⟩))
theorem dq_drain {p:Nat} {S:DS} {M:Chunk} (hR:DqR p S M) (hS:Sat W w (M::H::F)):
  Calls prog 68 #[Pt p 0] w fun e w'=>∃(a:Option Addr) (n k:Nat) (Z M':Chunk),e= .returned (.slice a n k)/\OwnT encRef 61 2 a n k S.l Z/\DqR p {S with l:=[]} M'/\Sat W w' (Z::M'::H::F):=by
 obtain ⟨a,n,k,c,rfl,hO,hW⟩:=hR
 have hS:Sat W _ ([(p, .cells #[I S.cap, .slice a n k] 166 (0,0))]::c::H::F):=Sat.perm hS (by simp)
 have hn:=hO.ll;have d0:=hW.c;have e0:=hW.n
 exact callsK 14 func68 rfl<|gCO hS 29 [0] rfl<|sT hS 0 1 (nS) [nS] #[I S.cap,nS] sizeOf125 fun _ a0=>jOR 9 rfl<|retT [.slice a n k]<|(by have b0:=(a0.pick 1 rfl);have c0:Sat W _ (c::([(p, .cells #[I S.cap,nS] 166 (0,0))]++([]:Chunk))::H::F):=Sat.perm (show Sat W _ (c::[(p, .cells #[I S.cap,nS] 166 (0,0))]::H::F) from b0) (by simp);exact ⟨_,_,_,_,_,rfl,hO,⟨_,_,_,_,rfl,OwnT.nil fR,⟨hW.c,by simp;omega⟩⟩,c0⟩)
theorem r23_new {cs:List Chunk} (c:Int) (hc:1<=c/\c<=256) (hS:Sat W w cs):
  Calls prog 48 #[I c] w fun e w'=>∃(p:Nat) (M:Chunk),e= .returned (.tuple #[Pt p 0,I 0])/\DqR p ⟨c,[]⟩ M/\Sat W w' (M::cs):=by
 exact callsK 13 func48 rfl<|jCO 12 rfl<|sD 6 (c<1) (fun a0=>jOR 14 rfl<|retT [.pointer none,I 2]<|(by omega)) fun a0=>jOC 5 rfl<|cD (c>256) (fun b0=>jCR 8 rfl<|retT [.pointer none,I 2]<|(by omega)) fun b0=>jCO 6 rfl<|sBx hS [I c,nS] fun c0 _ d0=>jOR 5 rfl<|retT [Pt c0 0,I 0]<|⟨_,_,rfl,⟨_,_,_,[],rfl,OwnT.nil fR,⟨hc,by simp;omega⟩⟩,d0⟩
end Go.Proofs.YtkadmghedmodbaaGreat
