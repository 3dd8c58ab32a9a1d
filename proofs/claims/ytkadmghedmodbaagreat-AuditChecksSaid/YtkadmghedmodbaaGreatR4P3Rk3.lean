import Derived.Test.YtkadmghedmodbaaGreatR4P3Rk1
set_option linter.all false
namespace Go.Proofs.YtkadmghedmodbaaGreat
open Go Go.E Go.Proofs.Tryz
set_option linter.all false
set_option maxRecDepth 100000
set_option maxHeartbeats 2000000
variable {W w:World} {H:Chunk} {F:List Chunk}
theorem rx_event {p wb wo:Nat} {H:Chunk} {oa ba ca:Option Addr} {wn wk on ok bn bk cn ck:Nat} {ws:List Rk} {bs:List (Option BS)} {cx:List Bool} {ps:List (Option Nat)} {Wc Bc Cc:Chunk} {bcs F:List Chunk} {K:Int} (hOw:OwnT encRk 208 5 (some ⟨wb,wo,none⟩) wn wk ws Wc) (hOb:OwnT encPO 96 1 ba bn bk ps Bc) (hOc:OwnT encKB 4 1 ca cn ck cx Cc) (hBs:Obs RBd ps bs bcs) (hcl:cx.length=bs.length) (hBW:∀B,some B∈bs->BWf B K) {off:List TL} (hOo:RdT encTL 1 [H] oa on ok off) (hDo:∀z∈off,TL.Ok [H] z) (e:Evt) {al:Option Addr} {nl kl:Nat} {l:List Evt} (hl:RdT encEvt 7 [H] al nl kl l) (hKb:K<=1000000) (hbl9:bs.length<=1000000) (hw1:1<=ws.length) (hWs:WsX off ws bs cx) (hS:Sat W w ([(p, .cells #[.slice (some ⟨wb,wo,none⟩) wn wk, .slice oa on ok, .slice ba bn bk, .slice ca cn ck] 154 (0,0))]::Wc::Bc::Cc::bcs.flatten::H::F)):
  Calls prog 102 #[Pt p 0, .agg (encEvt e).toArray, .slice al nl kl] w fun en w'=>(eventX off ws bs cx e l=none/\en= .returned (.bool false)/\∃M':Chunk,Sat W w' (M'::H::F))\/(∃(r':RS) (M':Chunk),eventX off ws bs cx e l=some r'/\en= .returned (.bool true)/\RsM p wb wo H off r' M'/\Sat W w' (M'::H::F)):=by
 have R0:=hOw.len;have A0:=hOw.le;have K0:=hOb.ll;have F0:=hOc.ll;have L0:=hBs.1
 have P0:=hOo.ll;have O0:=hl.ll
 refine callsK 141 func102 rfl<|jCO 2 rfl<|sBx hS (encEvt e) fun _ _ e0=>gOO e0 10 [0] rfl<|sD 12 (e.kind<1) (fun f2=>jOR 20 rfl<|retT [.bool false]<|(by have g2:=(e0.dropAt 0 rfl);have i2:Sat W _ (([(p, .cells #[.slice (some ⟨wb,wo,none⟩) wn wk, .slice oa on ok, .slice ba bn bk, .slice ca cn ck] 154 (0,0))]++Wc++Bc++Cc++bcs.flatten)::H::F):=Sat.perm (show Sat W _ ([(p, .cells #[.slice (some ⟨wb,wo,none⟩) wn wk, .slice oa on ok, .slice ba bn bk, .slice ca cn ck] 154 (0,0))]::Wc::Bc::Cc::bcs.flatten::H::F) from g2) (by simp);exact .inl ⟨evX_no (by first|(intro h;omega)|(intro h;exact absurd rfl h.2)),rfl,_,i2⟩)) fun f2=>gOO e0 5 [0] rfl<|sD 17 (e.kind>13) (fun j2=>jOR 15 rfl<|retT [.bool false]<|(by have k2:=(e0.dropAt 0 rfl);have l2:Sat W _ (([(p, .cells #[.slice (some ⟨wb,wo,none⟩) wn wk, .slice oa on ok, .slice ba bn bk, .slice ca cn ck] 154 (0,0))]++Wc++Bc++Cc++bcs.flatten)::H::F):=Sat.perm (show Sat W _ ([(p, .cells #[.slice (some ⟨wb,wo,none⟩) wn wk, .slice oa on ok, .slice ba bn bk, .slice ca cn ck] 154 (0,0))]::Wc::Bc::Cc::bcs.flatten::H::F) from k2) (by simp);exact .inl ⟨evX_no (by first|(intro h;omega)|(intro h;exact absurd rfl h.2)),rfl,_,l2⟩)) fun j2=>gOO e0 2 [700] rfl<|gY ?_
 have m2:=(e0.picks [6,6,6,6,6,6])
 refine cZ (rx_fits hOw hOb hOc hBs hcl hBW e m2) ?_
 rintro _ _ ⟨rfl,c0⟩
 refine jOC 4 rfl<|CBn (fitsX ws.length e) (fun a0=>jCR 7 rfl<|retT [.bool false]<|(by have n2:=(c0.dropAt 6 rfl);have o2:Sat W _ (([(p, .cells #[.slice (some ⟨wb,wo,none⟩) wn wk, .slice oa on ok, .slice ba bn bk, .slice ca cn ck] 154 (0,0))]++Wc++Bc++Cc++bcs.flatten)::H::F):=Sat.perm (show Sat W _ ([(p, .cells #[.slice (some ⟨wb,wo,none⟩) wn wk, .slice oa on ok, .slice ba bn bk, .slice ca cn ck] 154 (0,0))]::Wc::Bc::Cc::bcs.flatten::H::F) from n2) (by simp);exact .inl ⟨evX_no (by first|(intro h;omega)|(intro h;exact a0 h.2)),rfl,_,o2⟩)) fun a0=>jCC 4 rfl ?_
 obtain ⟨A0,G0⟩:=fits_in a0 hw1;obtain ⟨v,hv⟩:∃y,ws[e.worker.toNat]?=some y:=⟨_,List.getElem?_eq_getElem om⟩;obtain ⟨u,hu⟩:∃y,ws[e.from_.toNat]?=some y:=⟨_,List.getElem?_eq_getElem om⟩;obtain ⟨C0,E0,D0⟩:=hWs v (List.mem_of_getElem? hv);have Q0:=(List.getElem?_eq_some_iff.1 hv).1
 refine gCC c0 12 [6] rfl<|cE e.kind 1 (fun q2=>?_) (fun q2=>?_)
 ·refine gCO c0 4 [706] rfl ?_
  have r2:=(c0.picks [5,5,5,5,5,5])
  refine cZ (rx_submit hOw hOb hOc hBs hcl hBW hOo hDo e v hv A0.1 hKb hbl9 r2) ?_
  rintro _ _ (⟨j0,rfl,s2,k0⟩|⟨_,s2,j0,rfl,t2,k0⟩)
  ·exact jOR 6 rfl<|retT [.bool false]<| .inl ⟨(evX_1 a0 om).trans j0,rfl,_,(k0.dropAt 2 rfl)⟩
  exact jOR 6 rfl<|retT [.bool true]<| .inr ⟨_,_,(evX_1 a0 om).trans j0,rfl,t2,(k0.dropAt 2 rfl)⟩
 refine jCC 6 rfl<|cE e.kind 2 (fun w2=>gCO c0 6 [6] rfl<|(by have x2:=(c0.picks [5,5,5,5,5,5]);refine cZ (rx_run hOw hOb hOc hBs hcl hBW e.job x2) ?_;rintro _ _ ⟨rfl,d1⟩;refine jOC 3 rfl<|CBn (runX bs cx e.job) (fun i0=>jCR 9 rfl<|retT [.bool false]<|(by have y2:=(d1.dropAt 6 rfl);have z2:Sat W _ (([(p, .cells #[.slice (some ⟨wb,wo,none⟩) wn wk, .slice oa on ok, .slice ba bn bk, .slice ca cn ck] 154 (0,0))]++Wc++Bc++Cc++bcs.flatten)::H::F):=Sat.perm (show Sat W _ ([(p, .cells #[.slice (some ⟨wb,wo,none⟩) wn wk, .slice oa on ok, .slice ba bn bk, .slice ca cn ck] 154 (0,0))]::Wc::Bc::Cc::bcs.flatten::H::F) from y2) (by simp);exact .inl ⟨(evX_2 a0 om).trans (if_neg i0),rfl,_,z2⟩)) fun i0=>jCC 3 rfl ?_;obtain ⟨k8,l8,m8,n8,_,_⟩:=runX_some i0;obtain ⟨e1,a3⟩:∃y,cx[e.job.toNat]?=some y:=⟨_,List.getElem?_eq_getElem om⟩;obtain ⟨b3,o8,p8,f1,q8,c3,d3⟩:=OwnT.elem hOc e.job;obtain rfl:e1=b3:=Option.some.inj (a3.symm.trans f1);exact drawF d1 [7] (fb 3 0 3 1<|fb 5 6 3 1<|fn) [0,1,2,4,3,5,6,7] fun _ e3=>wV 4<|wL 0<|wL 1<|wI c3<|wO rfl<|sStF e3 hOc d3 3 (e.job).toNat 0 e1 true f1 (.bool true) [.bool true] sizeOf4 fun _ g1 f3 g3=>nA<|wN<|jXR 9 rfl<|retT [.bool true]<|(by have i3:=(g3.dropAt 6 rfl);have j3:Sat W _ (([(p, .cells #[.slice (some ⟨wb,wo,none⟩) wn wk, .slice oa on ok, .slice ba bn bk, .slice ca cn ck] 154 (0,0))]++(Wc++(Bc++(g1++bcs.flatten))))::H::F):=Sat.perm (show Sat W _ ([(p, .cells #[.slice (some ⟨wb,wo,none⟩) wn wk, .slice oa on ok, .slice ba bn bk, .slice ca cn ck] 154 (0,0))]::Wc::Bc::g1::bcs.flatten::H::F) from i3) (by simp);exact .inr ⟨_,_,((evX_2 a0 om).trans (if_pos i0)),rfl,⟨_,_,_,_,_,_,_,_,_,_,_,_,_,_,_,_,rfl,hOw,hOb,f3,hBs,(by simp [hcl]),hOo,hDo⟩,j3⟩))) fun w2=>?_
 refine jCC 7 rfl<|cE e.kind 3 (fun i1=>?_) (fun i1=>?_)
 ·refine jCC 2 rfl<|cT _ (beq_iff_eq.2 i1)<|gCO c0 4 [706] rfl ?_
  have k3:=(c0.picks [5,5,5,5,5,5])
  refine cZ (rx_take hOw hOb hOc hBs hcl hBW hOo hDo e v hv A0.1 hKb hbl9 k3) ?_
  rintro _ _ (⟨l0,rfl,l3,m0⟩|⟨_,l3,l0,rfl,m3,m0⟩)
  ·exact jOR 6 rfl<|retT [.bool false]<| .inl ⟨(evX_3 a0 hv om).trans l0,rfl,_,(m0.dropAt 2 rfl)⟩
  exact jOR 6 rfl<|retT [.bool true]<| .inr ⟨_,_,(evX_3 a0 hv om).trans l0,rfl,m3,(m0.dropAt 2 rfl)⟩
 refine jCC 6 rfl<|cE e.kind 4 (fun j1=>?_) (fun j1=>?_)
 ·refine jCC 2 rfl<|cT _ (beq_iff_eq.2 j1)<|gCO c0 4 [706] rfl ?_
  have q3:=(c0.picks [5,5,5,5,5,5])
  refine cZ (rx_take hOw hOb hOc hBs hcl hBW hOo hDo e v hv A0.1 hKb hbl9 q3) ?_
  rintro _ _ (⟨n0,rfl,r3,o0⟩|⟨_,r3,n0,rfl,s3,o0⟩)
  ·exact jOR 6 rfl<|retT [.bool false]<| .inl ⟨(evX_3 a0 hv om).trans n0,rfl,_,(o0.dropAt 2 rfl)⟩
  exact jOR 6 rfl<|retT [.bool true]<| .inr ⟨_,_,(evX_3 a0 hv om).trans n0,rfl,s3,(o0.dropAt 2 rfl)⟩
 refine jCC 5 rfl<|cE e.kind 5 (fun v3=>?_) (fun v3=>?_)
 ·refine gCO c0 4 [706] rfl ?_
  have w3:=(c0.picks [5,5,5,5,5,5])
  refine cZ (rx_take hOw hOb hOc hBs hcl hBW hOo hDo e v hv A0.1 hKb hbl9 w3) ?_
  rintro _ _ (⟨p0,rfl,x3,q0⟩|⟨_,x3,p0,rfl,y3,q0⟩)
  ·exact jOR 6 rfl<|retT [.bool false]<| .inl ⟨(evX_3 a0 hv om).trans p0,rfl,_,(q0.dropAt 2 rfl)⟩
  exact jOR 6 rfl<|retT [.bool true]<| .inr ⟨_,_,(evX_3 a0 hv om).trans p0,rfl,y3,(q0.dropAt 2 rfl)⟩
 refine jCC 7 rfl<|cE e.kind 6 (fun k1=>?_) (fun k1=>?_)
 ·refine jCC 2 rfl<|cT _ (beq_iff_eq.2 k1)<|gCO c0 4 [706] rfl ?_
  have b4:=(c0.picks [5,5,5,5,5,5])
  refine cZ (rx_micro hOw hOb hOc hBs hcl hBW hOo hDo e v hv A0.1 hKb hbl9 C0 D0 b4) ?_
  rintro _ _ (⟨r0,rfl,c4,s0⟩|⟨_,c4,r0,rfl,d4,s0⟩)
  ·exact jOR 6 rfl<|retT [.bool false]<| .inl ⟨(evX_6 a0 hv om).trans r0,rfl,_,(s0.dropAt 2 rfl)⟩
  exact jOR 6 rfl<|retT [.bool true]<| .inr ⟨_,_,(evX_6 a0 hv om).trans r0,rfl,d4,(s0.dropAt 2 rfl)⟩
 refine jCC 6 rfl<|cE e.kind 7 (fun l1=>?_) (fun l1=>?_)
 ·refine jCC 2 rfl<|cT _ (beq_iff_eq.2 l1)<|gCO c0 4 [706] rfl ?_
  have g4:=(c0.picks [5,5,5,5,5,5])
  refine cZ (rx_micro hOw hOb hOc hBs hcl hBW hOo hDo e v hv A0.1 hKb hbl9 C0 D0 g4) ?_
  rintro _ _ (⟨t0,rfl,h4,u0⟩|⟨_,h4,t0,rfl,i4,u0⟩)
  ·exact jOR 6 rfl<|retT [.bool false]<| .inl ⟨(evX_6 a0 hv om).trans t0,rfl,_,(u0.dropAt 2 rfl)⟩
  exact jOR 6 rfl<|retT [.bool true]<| .inr ⟨_,_,(evX_6 a0 hv om).trans t0,rfl,i4,(u0.dropAt 2 rfl)⟩
 refine jCC 5 rfl<|cE e.kind 8 (fun l4=>?_) (fun l4=>?_)
 ·refine gCO c0 4 [706] rfl ?_
  have m4:=(c0.picks [5,5,5,5,5,5])
  refine cZ (rx_micro hOw hOb hOc hBs hcl hBW hOo hDo e v hv A0.1 hKb hbl9 C0 D0 m4) ?_
  rintro _ _ (⟨v0,rfl,n4,w0⟩|⟨_,n4,v0,rfl,o4,w0⟩)
  ·exact jOR 6 rfl<|retT [.bool false]<| .inl ⟨(evX_6 a0 hv om).trans v0,rfl,_,(w0.dropAt 2 rfl)⟩
  exact jOR 6 rfl<|retT [.bool true]<| .inr ⟨_,_,(evX_6 a0 hv om).trans v0,rfl,o4,(w0.dropAt 2 rfl)⟩
 refine jCC 6 rfl<|cE e.kind 10 (fun r4=>?_) (fun r4=>?_)
 ·refine gCO c0 4 [706] rfl ?_
  have s4:=(c0.picks [5,5,5,5,5,5])
  refine cZ (rx_crash hOw hOb hOc hBs hcl hBW hOo hDo e v hv A0.1 hKb hbl9 s4) ?_
  rintro _ _ (⟨x0,rfl,t4,y0⟩|⟨_,t4,x0,rfl,u4,y0⟩)
  ·exact jOR 6 rfl<|retT [.bool false]<| .inl ⟨(evX_10 a0 hv om).trans x0,rfl,_,(y0.dropAt 2 rfl)⟩
  exact jOR 6 rfl<|retT [.bool true]<| .inr ⟨_,_,(evX_10 a0 hv om).trans x0,rfl,u4,(y0.dropAt 2 rfl)⟩
 refine jCC 6 rfl<|cE e.kind 12 (fun x4=>?_) (fun x4=>?_)
 ·refine gCO c0 5 [706] rfl ?_
  have y4:=(c0.picks [5,5,5,5,5,5])
  refine cZ (rx_help hOw hOb hOc hBs hcl hBW e v u hv A0.1 hu G0.1 hl y4) ?_
  rintro _ _ ⟨rfl,m1⟩
  refine jOR 6 rfl<|retT [.bool (helpX ws bs cx v e l)] ?_
  rcases hb_:helpX ws bs cx v e l with _|_
  · exact (by have z4:=(m1.dropAt 6 rfl);have a5:Sat W _ (([(p, .cells #[.slice (some ⟨wb,wo,none⟩) wn wk, .slice oa on ok, .slice ba bn bk, .slice ca cn ck] 154 (0,0))]++Wc++Bc++Cc++bcs.flatten)::H::F):=Sat.perm (show Sat W _ ([(p, .cells #[.slice (some ⟨wb,wo,none⟩) wn wk, .slice oa on ok, .slice ba bn bk, .slice ca cn ck] 154 (0,0))]::Wc::Bc::Cc::bcs.flatten::H::F) from z4) (by simp);exact .inl ⟨(evX_12 a0 hv om).trans (if_neg (by rw [hb_];decide)),rfl,_,a5⟩)
  have b5:=(m1.dropAt 6 rfl)
  have c5:Sat W _ (([(p, .cells #[.slice (some ⟨wb,wo,none⟩) wn wk, .slice oa on ok, .slice ba bn bk, .slice ca cn ck] 154 (0,0))]++(Wc++(Bc++(Cc++bcs.flatten))))::H::F):=Sat.perm (show Sat W _ ([(p, .cells #[.slice (some ⟨wb,wo,none⟩) wn wk, .slice oa on ok, .slice ba bn bk, .slice ca cn ck] 154 (0,0))]::Wc::Bc::Cc::bcs.flatten::H::F) from b5) (by simp)
  exact .inr ⟨_,_,((evX_12 a0 hv om).trans (if_pos hb_)),rfl,⟨_,_,_,_,_,_,_,_,_,_,_,_,_,_,_,_,rfl,hOw,hOb,hOc,hBs,hcl,hOo,hDo⟩,c5⟩
 refine jCC 4 rfl ?_
 obtain ⟨d5,h9,i9,f0,z0,e5,f5⟩:=OwnT.elem hOw e.worker
 obtain ⟨rfl,rfl⟩:=some_addr f5
 obtain rfl:v=d5:=Option.some.inj (hv.symm.trans f0)
 refine drawF c0 [] (fb 3 0 0 1<|fb 5 6 1 1<|fn) [0,1,2,4,3,5,6,7] fun _ g0=>wV 4<|wL 0<|wL 1<|wI e5<|wV 1<|wN<|gXC g0 15 [6] rfl<|cE e.kind 9 (fun g5=>?_) (fun g5=>?_)
 rotate_left
 ·refine jCC 6 rfl<|cE e.kind 11 (fun h5=>jCO 6 rfl<|sMp g0 (z0.up 1 rfl) 0 (I v.phase)<|jOC 3 rfl<|CN v.phase 4 (fun i5=>jCR 9 rfl<|retT [.bool false]<|(by have j5:=(g0.dropAt 6 rfl);have k5:Sat W _ (([(p, .cells #[.slice (some ⟨wb,wo,none⟩) wn wk, .slice oa on ok, .slice ba bn bk, .slice ca cn ck] 154 (0,0))]++Wc++Bc++Cc++bcs.flatten)::H::F):=Sat.perm (show Sat W _ ([(p, .cells #[.slice (some ⟨wb,wo,none⟩) wn wk, .slice oa on ok, .slice ba bn bk, .slice ca cn ck] 154 (0,0))]::Wc::Bc::Cc::bcs.flatten::H::F) from j5) (by simp);exact .inl ⟨(evX_11 a0 hv om).trans (if_neg om),rfl,_,k5⟩)) fun i5=>jCO 7 rfl<|sStF g0 hOw rfl 1 (e.worker).toNat 0 v (⟨0,0,0,0,0⟩:Rk) f0 (.agg #[I 0,I 0,I 0,I 0,I 0]) [I 0,I 0,I 0,I 0,I 0] sizeOf208 fun _ n1 l5 m5=>jOR 10 rfl<|retT [.bool true]<|(by have n5:=(m5.dropAt 6 rfl);have o5:Sat W _ (([(p, .cells #[.slice (some ⟨wb,wo,none⟩) wn wk, .slice oa on ok, .slice ba bn bk, .slice ca cn ck] 154 (0,0))]++(n1++(Bc++(Cc++bcs.flatten))))::H::F):=Sat.perm (show Sat W _ ([(p, .cells #[.slice (some ⟨wb,wo,none⟩) wn wk, .slice oa on ok, .slice ba bn bk, .slice ca cn ck] 154 (0,0))]::n1::Bc::Cc::bcs.flatten::H::F) from n5) (by simp);exact .inr ⟨_,_,((evX_11 a0 hv om).trans (if_pos om)),rfl,⟨_,_,_,_,_,_,_,_,_,_,_,_,_,_,_,_,rfl,l5,hOb,hOc,hBs,hcl,hOo,hDo⟩,o5⟩)) fun h5=>jCC 10 rfl<|loopF [0,7] (γ:=Nat) (fun i R=>⟨[(8,I (i:Int))],R,wn-i,i<=wn/\((ws.take i).any (busyX bs cx)=false)⟩) 0 ⟨g0,om,rfl⟩ ?_
  rintro i ρ _ ⟨h0,hi,B0⟩
  refine gCC h0 12 [0] rfl<|cD ((i:Int)<(wn:Int)) (fun p5=>jCO 8 rfl<|(by obtain ⟨a1,b1⟩:∃y,ws[i]?=some y:=⟨_,List.getElem?_eq_getElem om⟩;have q5:=(h0.picks [5,5,5,5,5,5]);refine cZ (rx_busy hOw hOb hOc hBs hcl hBW (i:Int) a1 b1 om q5) ?_;rintro _ _ ⟨rfl,o1⟩;exact jOC 2 rfl<|CB (busyX bs cx a1) (fun c1=>jCO 5 rfl<|sAdd (i:Int) 1<|jOI 2 rfl<|⟨i+1,od,alB,o1,om,(any_takeX b1 B0 (Bool.eq_false_iff.2 c1))⟩) fun c1=>jCR 11 rfl<|retT [.bool false]<|(by have r5:=(o1.dropAt 6 rfl);have s5:Sat W _ (([(p, .cells #[.slice (some ⟨wb,wo,none⟩) wn wk, .slice oa on ok, .slice ba bn bk, .slice ca cn ck] 154 (0,0))]++Wc++Bc++Cc++bcs.flatten)::H::F):=Sat.perm (show Sat W _ ([(p, .cells #[.slice (some ⟨wb,wo,none⟩) wn wk, .slice oa on ok, .slice ba bn bk, .slice ca cn ck] 154 (0,0))]::Wc::Bc::Cc::bcs.flatten::H::F) from r5) (by simp);exact .inl ⟨(evX_13 a0 hv om).trans (if_pos (List.any_eq_true.2 ⟨a1,List.mem_of_getElem? b1,c1⟩)),rfl,_,s5⟩))) fun p5=>?_
  refine jCC 6 rfl ?_
  have t5:=OwnT.ptr hOw rfl hv
  refine jCO 4 rfl<|sMp h0 (t5.up 1 rfl) 0 (I v.phase)<|pu2<|SE 136 v.phase 0 (fun u5=>jOR 8 rfl<|retT [.bool false]<|(by have v5:=(h0.dropAt 6 rfl);have w5:Sat W _ (([(p, .cells #[.slice (some ⟨wb,wo,none⟩) wn wk, .slice oa on ok, .slice ba bn bk, .slice ca cn ck] 154 (0,0))]++Wc++Bc++Cc++bcs.flatten)::H::F):=Sat.perm (show Sat W _ ([(p, .cells #[.slice (some ⟨wb,wo,none⟩) wn wk, .slice oa on ok, .slice ba bn bk, .slice ca cn ck] 154 (0,0))]::Wc::Bc::Cc::bcs.flatten::H::F) from v5) (by simp);exact .inl ⟨(evX_13 a0 hv om).trans ((if_neg (by rw [show ws.any (busyX bs cx)=false from by rw [<-B0,List.take_of_length_le om]];decide)).trans (if_neg (by rintro ⟨h1,h2⟩;first|omega|exact h2 rfl))),rfl,_,w5⟩)) fun u5=>pu1<|gY ?_
  have x5:=(h0.picks [5,5,5,5,5,5])
  refine cZ (rx_ready hOw hOb hOc hBs hcl hBW x5) ?_
  rintro _ _ ⟨rfl,q1⟩
  refine jOR 6 rfl<|retT [.bool (!(readyX bs cx))] ?_
  rcases hb_:readyX bs cx with _|_
  rotate_left
  · exact (by have y5:=(q1.dropAt 6 rfl);have z5:Sat W _ (([(p, .cells #[.slice (some ⟨wb,wo,none⟩) wn wk, .slice oa on ok, .slice ba bn bk, .slice ca cn ck] 154 (0,0))]++Wc++Bc++Cc++bcs.flatten)::H::F):=Sat.perm (show Sat W _ ([(p, .cells #[.slice (some ⟨wb,wo,none⟩) wn wk, .slice oa on ok, .slice ba bn bk, .slice ca cn ck] 154 (0,0))]::Wc::Bc::Cc::bcs.flatten::H::F) from y5) (by simp);exact .inl ⟨(evX_13 a0 hv om).trans ((if_neg (by rw [show ws.any (busyX bs cx)=false from by rw [<-B0,List.take_of_length_le om]];decide)).trans (if_neg (by rw [hb_];simp))),rfl,_,z5⟩)
  have a6:=(q1.dropAt 6 rfl)
  have b6:Sat W _ (([(p, .cells #[.slice (some ⟨wb,wo,none⟩) wn wk, .slice oa on ok, .slice ba bn bk, .slice ca cn ck] 154 (0,0))]++(Wc++(Bc++(Cc++bcs.flatten))))::H::F):=Sat.perm (show Sat W _ ([(p, .cells #[.slice (some ⟨wb,wo,none⟩) wn wk, .slice oa on ok, .slice ba bn bk, .slice ca cn ck] 154 (0,0))]::Wc::Bc::Cc::bcs.flatten::H::F) from a6) (by simp)
  exact .inr ⟨_,_,((evX_13 a0 hv om).trans ((if_neg (by rw [show ws.any (busyX bs cx)=false from by rw [<-B0,List.take_of_length_le om]];decide)).trans (if_pos ⟨om,by rw [hb_];decide⟩))),rfl,⟨_,_,_,_,_,_,_,_,_,_,_,_,_,_,_,_,rfl,hOw,hOb,hOc,hBs,hcl,hOo,hDo⟩,b6⟩
 refine jCC 2 rfl<|drawG g0 [3,9,11,18,21,23] (fb 2 6 1 1<|fn) (pS [0,1,2]<| .ef 3<|pS [4,5,6,7,8,10]<| .fk 9 11 (.ef 11<|pS [12,13,14,15,16,17,19,20]<| .fk 18 21 (.ef 21<|pS [22]<| .ef 23<|pS [24,25]<| .fin) (.ef 18<|pS [22]<| .ef 23<|pS [24,25]<| .fin)) (.ef 9<|pS [12,13,14,15,16,17,19,20]<| .fk 18 21 (.ef 21<|pS [22]<| .ef 23<|pS [24,25]<| .fin) (.ef 18<|pS [22]<| .ef 23<|pS [24,25]<| .fin))) fun _ c6=>qV 2<|qL 0<|qO rfl ?_
 have d6:=(c6.picks [5,5,5,5,5,5])
 refine cZ (rx_holds hOw hOb hOc hBs hcl hBW e.worker v hv om d6) ?_
 rintro _ _ ⟨rfl,b0⟩
 rcases d0:holdX v with _|_
 ·refine nA<|qV 1<|qV 1<|qV 1<|qV 1<|qV 1<|qV 1<|qF ?_ ?_
  rotate_left
  ·refine qO rfl<|pu1<|nA<|qO rfl<|pu1<|nA<|qV 1<|qV 1<|qV 1<|qV 1<|qV 1<|qV 1<|qV 1<|qV 1<|qF ?_ ?_
   rotate_left
   ·exact qO rfl<|pu1<|nA<|qO rfl<|pu1<|nA<|qV 1<|qO rfl<|pu1<|nA<|qV 1<|qV 1<|qN<|jXR 11 rfl<|retT [.bool false]<|(by have e6:=(b0.dropAt 6 rfl);have f6:Sat W _ (([(p, .cells #[.slice (some ⟨wb,wo,none⟩) wn wk, .slice oa on ok, .slice ba bn bk, .slice ca cn ck] 154 (0,0))]++Wc++Bc++Cc++bcs.flatten)::H::F):=Sat.perm (show Sat W _ ([(p, .cells #[.slice (some ⟨wb,wo,none⟩) wn wk, .slice oa on ok, .slice ba bn bk, .slice ca cn ck] 154 (0,0))]::Wc::Bc::Cc::bcs.flatten::H::F) from e6) (by simp);exact .inl ⟨(evX_9 a0 hv om).trans (if_neg (by rintro ⟨h1,h2,h3⟩;first|omega|(rw [d0] at h1;cases h1;done)|(rw [getD_some hv] at h3;contradiction)|(simp_all;done))),rfl,_,f6⟩)
   exact qO rfl<|pu1<|nA<|qO rfl<|pu1<|nA<|qV 1<|qO rfl<|pu1<|nA<|qV 1<|qV 1<|qN<|jXR 11 rfl<|retT [.bool false]<|(by have g6:=(b0.dropAt 6 rfl);have h6:Sat W _ (([(p, .cells #[.slice (some ⟨wb,wo,none⟩) wn wk, .slice oa on ok, .slice ba bn bk, .slice ca cn ck] 154 (0,0))]++Wc++Bc++Cc++bcs.flatten)::H::F):=Sat.perm (show Sat W _ ([(p, .cells #[.slice (some ⟨wb,wo,none⟩) wn wk, .slice oa on ok, .slice ba bn bk, .slice ca cn ck] 154 (0,0))]::Wc::Bc::Cc::bcs.flatten::H::F) from g6) (by simp);exact .inl ⟨(evX_9 a0 hv om).trans (if_neg (by rintro ⟨h1,h2,h3⟩;first|omega|(rw [d0] at h1;cases h1;done)|(rw [getD_some hv] at h3;contradiction)|(simp_all;done))),rfl,_,h6⟩)
  refine qO rfl<|pu1<|nA<|qO rfl<|pu1<|nA<|qV 1<|qV 1<|qV 1<|qV 1<|qV 1<|qV 1<|qV 1<|qV 1<|qF ?_ ?_
  rotate_left
  ·exact qO rfl<|pu1<|nA<|qO rfl<|pu1<|nA<|qV 1<|qO rfl<|pu1<|nA<|qV 1<|qV 1<|qN<|jXR 11 rfl<|retT [.bool false]<|(by have i6:=(b0.dropAt 6 rfl);have j6:Sat W _ (([(p, .cells #[.slice (some ⟨wb,wo,none⟩) wn wk, .slice oa on ok, .slice ba bn bk, .slice ca cn ck] 154 (0,0))]++Wc++Bc++Cc++bcs.flatten)::H::F):=Sat.perm (show Sat W _ ([(p, .cells #[.slice (some ⟨wb,wo,none⟩) wn wk, .slice oa on ok, .slice ba bn bk, .slice ca cn ck] 154 (0,0))]::Wc::Bc::Cc::bcs.flatten::H::F) from i6) (by simp);exact .inl ⟨(evX_9 a0 hv om).trans (if_neg (by rintro ⟨h1,h2,h3⟩;first|omega|(rw [d0] at h1;cases h1;done)|(rw [getD_some hv] at h3;contradiction)|(simp_all;done))),rfl,_,j6⟩)
  exact qO rfl<|pu1<|nA<|qO rfl<|pu1<|nA<|qV 1<|qO rfl<|pu1<|nA<|qV 1<|qV 1<|qN<|jXR 11 rfl<|retT [.bool false]<|(by have k6:=(b0.dropAt 6 rfl);have l6:Sat W _ (([(p, .cells #[.slice (some ⟨wb,wo,none⟩) wn wk, .slice oa on ok, .slice ba bn bk, .slice ca cn ck] 154 (0,0))]++Wc++Bc++Cc++bcs.flatten)::H::F):=Sat.perm (show Sat W _ ([(p, .cells #[.slice (some ⟨wb,wo,none⟩) wn wk, .slice oa on ok, .slice ba bn bk, .slice ca cn ck] 154 (0,0))]::Wc::Bc::Cc::bcs.flatten::H::F) from k6) (by simp);exact .inl ⟨(evX_9 a0 hv om).trans (if_neg (by rintro ⟨h1,h2,h3⟩;first|omega|(rw [d0] at h1;cases h1;done)|(rw [getD_some hv] at h3;contradiction)|(simp_all;done))),rfl,_,l6⟩)
 have I0:=E0 d0
 refine nA<|qV 1<|qV 1<|qV 1<|qV 1<|qV 1<|qV 1<|qF ?_ ?_
 rotate_left
 ·refine qO rfl<|gY<|lB b0 6 4 2<|nA<|qO rfl<|gY<|sMA b0 (z0.up 1 rfl) 3 [I v.heldJob,I v.heldTask]<|nA<|qY (.bool (!(((v.heldJob:Int)==e.refJob)&&((v.heldTask:Int)==e.refTask)))) rfl (fun w _=>Y_eqS rfl kr kr (eqvn61 _ v.heldJob v.heldTask e.refJob e.refTask))<|qV 1<|qV 1 ?_
  by_cases r1:(v.heldJob:Int)=e.refJob/\(v.heldTask:Int)=e.refTask
  rotate_left
  ·refine qFix 94 _ true (congrArg Bool.not (show (((v.heldJob:Int)==e.refJob)&&((v.heldTask:Int)==e.refTask))=false from by simpa using r1))<|qV 1<|qV 1<|qV 1<|qV 1<|qV 1<|qF ?_ ?_
   rotate_left
   ·exact qO rfl<|pu1<|nA<|qO rfl<|pu1<|nA<|qV 1<|qO rfl<|pu1<|nA<|qV 1<|qV 1<|qN<|jXR 11 rfl<|retT [.bool false]<|(by have m6:=(b0.dropAt 6 rfl);have n6:Sat W _ (([(p, .cells #[.slice (some ⟨wb,wo,none⟩) wn wk, .slice oa on ok, .slice ba bn bk, .slice ca cn ck] 154 (0,0))]++Wc++Bc++Cc++bcs.flatten)::H::F):=Sat.perm (show Sat W _ ([(p, .cells #[.slice (some ⟨wb,wo,none⟩) wn wk, .slice oa on ok, .slice ba bn bk, .slice ca cn ck] 154 (0,0))]::Wc::Bc::Cc::bcs.flatten::H::F) from m6) (by simp);exact .inl ⟨(evX_9 a0 hv om).trans (if_neg (by rintro ⟨h1,h2,h3⟩;first|omega|(rw [d0] at h1;cases h1;done)|(rw [getD_some hv] at h3;contradiction)|(simp_all;done))),rfl,_,n6⟩)
   exact qO rfl<|pu1<|nA<|qO rfl<|pu1<|nA<|qV 1<|qO rfl<|pu1<|nA<|qV 1<|qV 1<|qN<|jXR 11 rfl<|retT [.bool false]<|(by have o6:=(b0.dropAt 6 rfl);have p6:Sat W _ (([(p, .cells #[.slice (some ⟨wb,wo,none⟩) wn wk, .slice oa on ok, .slice ba bn bk, .slice ca cn ck] 154 (0,0))]++Wc++Bc++Cc++bcs.flatten)::H::F):=Sat.perm (show Sat W _ ([(p, .cells #[.slice (some ⟨wb,wo,none⟩) wn wk, .slice oa on ok, .slice ba bn bk, .slice ca cn ck] 154 (0,0))]::Wc::Bc::Cc::bcs.flatten::H::F) from o6) (by simp);exact .inl ⟨(evX_9 a0 hv om).trans (if_neg (by rintro ⟨h1,h2,h3⟩;first|omega|(rw [d0] at h1;cases h1;done)|(rw [getD_some hv] at h3;contradiction)|(simp_all;done))),rfl,_,p6⟩)
  refine qFix 94 _ false (congrArg Bool.not (show (((v.heldJob:Int)==e.refJob)&&((v.heldTask:Int)==e.refTask))=true from by simpa using r1))<|qV 1<|qV 1<|qV 1<|qV 1<|qV 1<|qF ?_ ?_
  rotate_left
  · exact qO rfl<|gY<|sM b0 6 4 (I e.refJob)<|nA<|qO rfl<|gY<|sM b0 0 3 (.slice ca cn ck)<|nA<|(by obtain ⟨s1,o9,p9,t1,q6,r6,q9⟩:=OwnT.elem hOc e.refJob;exact qI r6<|qO rfl<|gY<|sMp b0 (q6.up 3 rfl) 0 (.bool s1)<|nA<|qV 1<|qV 1<|qN<|jXC 1 rfl<|CBn s1 (fun s6=>jCR 9 rfl<|retT [.bool false]<|(by have t6:=(b0.dropAt 6 rfl);have u6:Sat W _ (([(p, .cells #[.slice (some ⟨wb,wo,none⟩) wn wk, .slice oa on ok, .slice ba bn bk, .slice ca cn ck] 154 (0,0))]++Wc++Bc++Cc++bcs.flatten)::H::F):=Sat.perm (show Sat W _ ([(p, .cells #[.slice (some ⟨wb,wo,none⟩) wn wk, .slice oa on ok, .slice ba bn bk, .slice ca cn ck] 154 (0,0))]::Wc::Bc::Cc::bcs.flatten::H::F) from t6) (by simp);exact .inl ⟨(evX_9 a0 hv om).trans (if_neg (by rintro ⟨h1,h2,h3⟩;first|omega|(rw [d0] at h1;cases h1;done)|(rw [getD_some t1] at h3;contradiction)|(simp_all;done))),rfl,_,u6⟩)) fun s6=>jCO 7 rfl<|sStF b0 hOw rfl 1 (e.worker).toNat 0 v (⟨0,0,0,0,0⟩:Rk) f0 (.agg #[I 0,I 0,I 0,I 0,I 0]) [I 0,I 0,I 0,I 0,I 0] sizeOf208 fun _ u1 v6 w6=>jOR 10 rfl<|retT [.bool true]<|(by have x6:=(w6.dropAt 6 rfl);have y6:Sat W _ (([(p, .cells #[.slice (some ⟨wb,wo,none⟩) wn wk, .slice oa on ok, .slice ba bn bk, .slice ca cn ck] 154 (0,0))]++(u1++(Bc++(Cc++bcs.flatten))))::H::F):=Sat.perm (show Sat W _ ([(p, .cells #[.slice (some ⟨wb,wo,none⟩) wn wk, .slice oa on ok, .slice ba bn bk, .slice ca cn ck] 154 (0,0))]::u1::Bc::Cc::bcs.flatten::H::F) from x6) (by simp);exact .inr ⟨_,_,((evX_9 a0 hv om).trans (if_pos ⟨d0,om,by rw [getD_some t1];assumption⟩)),rfl,⟨_,_,_,_,_,_,_,_,_,_,_,_,_,_,_,_,rfl,v6,hOb,hOc,hBs,hcl,hOo,hDo⟩,y6⟩))
  refine qO rfl<|gY<|sM b0 0 3 (.slice ca cn ck)<|nA<|qO rfl<|gY<|sM b0 6 4 (I e.refJob)<|nA ?_
  obtain ⟨v1,s9,t9,w1,z6,a7,u9⟩:=OwnT.elem hOc e.refJob
  exact qI a7<|qO rfl<|gY<|sMp b0 (z6.up 3 rfl) 0 (.bool v1)<|nA<|qV 1<|qV 1<|qN<|jXC 1 rfl<|CBn v1 (fun b7=>jCR 9 rfl<|retT [.bool false]<|(by have c7:=(b0.dropAt 6 rfl);have d7:Sat W _ (([(p, .cells #[.slice (some ⟨wb,wo,none⟩) wn wk, .slice oa on ok, .slice ba bn bk, .slice ca cn ck] 154 (0,0))]++Wc++Bc++Cc++bcs.flatten)::H::F):=Sat.perm (show Sat W _ ([(p, .cells #[.slice (some ⟨wb,wo,none⟩) wn wk, .slice oa on ok, .slice ba bn bk, .slice ca cn ck] 154 (0,0))]::Wc::Bc::Cc::bcs.flatten::H::F) from c7) (by simp);exact .inl ⟨(evX_9 a0 hv om).trans (if_neg (by rintro ⟨h1,h2,h3⟩;first|omega|(rw [d0] at h1;cases h1;done)|(rw [getD_some w1] at h3;contradiction)|(simp_all;done))),rfl,_,d7⟩)) fun b7=>jCO 7 rfl<|sStF b0 hOw rfl 1 (e.worker).toNat 0 v (⟨0,0,0,0,0⟩:Rk) f0 (.agg #[I 0,I 0,I 0,I 0,I 0]) [I 0,I 0,I 0,I 0,I 0] sizeOf208 fun _ x1 e7 f7=>jOR 10 rfl<|retT [.bool true]<|(by have g7:=(f7.dropAt 6 rfl);have h7:Sat W _ (([(p, .cells #[.slice (some ⟨wb,wo,none⟩) wn wk, .slice oa on ok, .slice ba bn bk, .slice ca cn ck] 154 (0,0))]++(x1++(Bc++(Cc++bcs.flatten))))::H::F):=Sat.perm (show Sat W _ ([(p, .cells #[.slice (some ⟨wb,wo,none⟩) wn wk, .slice oa on ok, .slice ba bn bk, .slice ca cn ck] 154 (0,0))]::x1::Bc::Cc::bcs.flatten::H::F) from g7) (by simp);exact .inr ⟨_,_,((evX_9 a0 hv om).trans (if_pos ⟨d0,om,by rw [getD_some w1];assumption⟩)),rfl,⟨_,_,_,_,_,_,_,_,_,_,_,_,_,_,_,_,rfl,e7,hOb,hOc,hBs,hcl,hOo,hDo⟩,h7⟩)
 refine qO rfl<|gY<|sMA b0 (z0.up 1 rfl) 3 [I v.heldJob,I v.heldTask]<|nA<|qO rfl<|gY<|lB b0 6 4 2<|nA<|qY (.bool (!(((v.heldJob:Int)==e.refJob)&&((v.heldTask:Int)==e.refTask)))) rfl (fun w _=>Y_eqS rfl kr kr (eqvn61 _ v.heldJob v.heldTask e.refJob e.refTask))<|qV 1<|qV 1 ?_
 by_cases y1:(v.heldJob:Int)=e.refJob/\(v.heldTask:Int)=e.refTask
 rotate_left
 ·refine qFix 94 _ true (congrArg Bool.not (show (((v.heldJob:Int)==e.refJob)&&((v.heldTask:Int)==e.refTask))=false from by simpa using y1))<|qV 1<|qV 1<|qV 1<|qV 1<|qV 1<|qF ?_ ?_
  rotate_left
  ·exact qO rfl<|pu1<|nA<|qO rfl<|pu1<|nA<|qV 1<|qO rfl<|pu1<|nA<|qV 1<|qV 1<|qN<|jXR 11 rfl<|retT [.bool false]<|(by have i7:=(b0.dropAt 6 rfl);have j7:Sat W _ (([(p, .cells #[.slice (some ⟨wb,wo,none⟩) wn wk, .slice oa on ok, .slice ba bn bk, .slice ca cn ck] 154 (0,0))]++Wc++Bc++Cc++bcs.flatten)::H::F):=Sat.perm (show Sat W _ ([(p, .cells #[.slice (some ⟨wb,wo,none⟩) wn wk, .slice oa on ok, .slice ba bn bk, .slice ca cn ck] 154 (0,0))]::Wc::Bc::Cc::bcs.flatten::H::F) from i7) (by simp);exact .inl ⟨(evX_9 a0 hv om).trans (if_neg (by rintro ⟨h1,h2,h3⟩;first|omega|(rw [d0] at h1;cases h1;done)|(rw [getD_some hv] at h3;contradiction)|(simp_all;done))),rfl,_,j7⟩)
  exact qO rfl<|pu1<|nA<|qO rfl<|pu1<|nA<|qV 1<|qO rfl<|pu1<|nA<|qV 1<|qV 1<|qN<|jXR 11 rfl<|retT [.bool false]<|(by have k7:=(b0.dropAt 6 rfl);have l7:Sat W _ (([(p, .cells #[.slice (some ⟨wb,wo,none⟩) wn wk, .slice oa on ok, .slice ba bn bk, .slice ca cn ck] 154 (0,0))]++Wc++Bc++Cc++bcs.flatten)::H::F):=Sat.perm (show Sat W _ ([(p, .cells #[.slice (some ⟨wb,wo,none⟩) wn wk, .slice oa on ok, .slice ba bn bk, .slice ca cn ck] 154 (0,0))]::Wc::Bc::Cc::bcs.flatten::H::F) from k7) (by simp);exact .inl ⟨(evX_9 a0 hv om).trans (if_neg (by rintro ⟨h1,h2,h3⟩;first|omega|(rw [d0] at h1;cases h1;done)|(rw [getD_some hv] at h3;contradiction)|(simp_all;done))),rfl,_,l7⟩)
 refine qFix 94 _ false (congrArg Bool.not (show (((v.heldJob:Int)==e.refJob)&&((v.heldTask:Int)==e.refTask))=true from by simpa using y1))<|qV 1<|qV 1<|qV 1<|qV 1<|qV 1<|qF ?_ ?_
 rotate_left
 · exact qO rfl<|gY<|sM b0 6 4 (I e.refJob)<|nA<|qO rfl<|gY<|sM b0 0 3 (.slice ca cn ck)<|nA<|(by obtain ⟨z1,w9,x9,a2,m7,n7,y9⟩:=OwnT.elem hOc e.refJob;exact qI n7<|qO rfl<|gY<|sMp b0 (m7.up 3 rfl) 0 (.bool z1)<|nA<|qV 1<|qV 1<|qN<|jXC 1 rfl<|CBn z1 (fun o7=>jCR 9 rfl<|retT [.bool false]<|(by have p7:=(b0.dropAt 6 rfl);have q7:Sat W _ (([(p, .cells #[.slice (some ⟨wb,wo,none⟩) wn wk, .slice oa on ok, .slice ba bn bk, .slice ca cn ck] 154 (0,0))]++Wc++Bc++Cc++bcs.flatten)::H::F):=Sat.perm (show Sat W _ ([(p, .cells #[.slice (some ⟨wb,wo,none⟩) wn wk, .slice oa on ok, .slice ba bn bk, .slice ca cn ck] 154 (0,0))]::Wc::Bc::Cc::bcs.flatten::H::F) from p7) (by simp);exact .inl ⟨(evX_9 a0 hv om).trans (if_neg (by rintro ⟨h1,h2,h3⟩;first|omega|(rw [d0] at h1;cases h1;done)|(rw [getD_some a2] at h3;contradiction)|(simp_all;done))),rfl,_,q7⟩)) fun o7=>jCO 7 rfl<|sStF b0 hOw rfl 1 (e.worker).toNat 0 v (⟨0,0,0,0,0⟩:Rk) f0 (.agg #[I 0,I 0,I 0,I 0,I 0]) [I 0,I 0,I 0,I 0,I 0] sizeOf208 fun _ b2 r7 s7=>jOR 10 rfl<|retT [.bool true]<|(by have t7:=(s7.dropAt 6 rfl);have u7:Sat W _ (([(p, .cells #[.slice (some ⟨wb,wo,none⟩) wn wk, .slice oa on ok, .slice ba bn bk, .slice ca cn ck] 154 (0,0))]++(b2++(Bc++(Cc++bcs.flatten))))::H::F):=Sat.perm (show Sat W _ ([(p, .cells #[.slice (some ⟨wb,wo,none⟩) wn wk, .slice oa on ok, .slice ba bn bk, .slice ca cn ck] 154 (0,0))]::b2::Bc::Cc::bcs.flatten::H::F) from t7) (by simp);exact .inr ⟨_,_,((evX_9 a0 hv om).trans (if_pos ⟨d0,om,by rw [getD_some a2];assumption⟩)),rfl,⟨_,_,_,_,_,_,_,_,_,_,_,_,_,_,_,_,rfl,r7,hOb,hOc,hBs,hcl,hOo,hDo⟩,u7⟩))
 refine qO rfl<|gY<|sM b0 0 3 (.slice ca cn ck)<|nA<|qO rfl<|gY<|sM b0 6 4 (I e.refJob)<|nA ?_
 obtain ⟨c2,aa,da,d2,v7,w7,ea⟩:=OwnT.elem hOc e.refJob
 exact qI w7<|qO rfl<|gY<|sMp b0 (v7.up 3 rfl) 0 (.bool c2)<|nA<|qV 1<|qV 1<|qN<|jXC 1 rfl<|CBn c2 (fun x7=>jCR 9 rfl<|retT [.bool false]<|(by have y7:=(b0.dropAt 6 rfl);have z7:Sat W _ (([(p, .cells #[.slice (some ⟨wb,wo,none⟩) wn wk, .slice oa on ok, .slice ba bn bk, .slice ca cn ck] 154 (0,0))]++Wc++Bc++Cc++bcs.flatten)::H::F):=Sat.perm (show Sat W _ ([(p, .cells #[.slice (some ⟨wb,wo,none⟩) wn wk, .slice oa on ok, .slice ba bn bk, .slice ca cn ck] 154 (0,0))]::Wc::Bc::Cc::bcs.flatten::H::F) from y7) (by simp);exact .inl ⟨(evX_9 a0 hv om).trans (if_neg (by rintro ⟨h1,h2,h3⟩;first|omega|(rw [d0] at h1;cases h1;done)|(rw [getD_some d2] at h3;contradiction)|(simp_all;done))),rfl,_,z7⟩)) fun x7=>jCO 7 rfl<|sStF b0 hOw rfl 1 (e.worker).toNat 0 v (⟨0,0,0,0,0⟩:Rk) f0 (.agg #[I 0,I 0,I 0,I 0,I 0]) [I 0,I 0,I 0,I 0,I 0] sizeOf208 fun _ e2 a8 b8=>jOR 10 rfl<|retT [.bool true]<|(by have c8:=(b8.dropAt 6 rfl);have d8:Sat W _ (([(p, .cells #[.slice (some ⟨wb,wo,none⟩) wn wk, .slice oa on ok, .slice ba bn bk, .slice ca cn ck] 154 (0,0))]++(e2++(Bc++(Cc++bcs.flatten))))::H::F):=Sat.perm (show Sat W _ ([(p, .cells #[.slice (some ⟨wb,wo,none⟩) wn wk, .slice oa on ok, .slice ba bn bk, .slice ca cn ck] 154 (0,0))]::e2::Bc::Cc::bcs.flatten::H::F) from c8) (by simp);exact .inr ⟨_,_,((evX_9 a0 hv om).trans (if_pos ⟨d0,om,by rw [getD_some d2];assumption⟩)),rfl,⟨_,_,_,_,_,_,_,_,_,_,_,_,_,_,_,_,rfl,a8,hOb,hOc,hBs,hcl,hOo,hDo⟩,d8⟩)

structure QI_r (F:FS):Prop where
  c:∀r,cnt F r=(rdyJ F.jobs r).toNat
  q4:F.q.bs.length=4
  cap:F.q.cap=512
def allR:Nat->List JS->List Ref
  |_,[]=>[]
  |k,j::l=>(if j.added then (List.range j.tasks.length).map (fun (t:Nat)=>(⟨(k:Int),(t:Int)⟩:Ref)) else [])++allR (k+1) l
theorem allR_len:∀{l:List JS} {k:Nat},(allR k l).length=totS (shapeF l)
  |[],_=>rfl
  |j::l,k=>by
    have ih:=allR_len (l:=l) (k:=k+1)
    simp only [allR,List.length_append,ih,totS,shapeF,List.map_cons,List.sum_cons]
    congr 1
    cases j.added<;>simp
theorem allR_mem:∀{l:List JS} {k i:Nat} {j:JS} {t:Int},l[i]?=some j->j.added=true->0<=t->t<(j.tasks.length:Int)->(⟨((k+i:Nat):Int),t⟩:Ref)∈allR k l
 |[],_,_,_,_,h,_,_,_=>by cases h
 |x::l,k,0,j,t,h,ha,h0,h1=>by
  obtain rfl:x=j:=by simpa using h
  unfold allR
  apply List.mem_append_left
  rw [if_pos ha]
  exact List.mem_map.2 ⟨t.toNat,List.mem_range.2 om,by rw [show (t.toNat:Int)=t by omega];rfl⟩
 |x::l,k,i+1,j,t,h,ha,h0,h1=>by
  have ih:=allR_mem (l:=l) (k:=k+1) (i:=i) (j:=j) (t:=t) (by simpa using h) ha h0 h1
  unfold allR
  apply List.mem_append_right
  rw [show k+(i+1)=k+1+i by omega];exact ih
theorem QI_r.small {F:FS} {K:Int} (h:QI_r F) (hF:FW F K):totB F.q.bs<=((totS (shapeF F.jobs):Nat):Int):=by
 have h1:F.q.bs.flatten.length<=(allR 0 F.jobs).length:=by
  apply len_le
  intro r
  have h2:F.q.bs.flatten.count r=cQ F.q.bs r:=by rw [List.count_flatten];rfl
  rw [h2]
  have h3:=h.c r
  unfold cnt at h3
  cases hr:rdyJ F.jobs r with
  |false=>rw [hr] at h3;simp at h3;omega
  |true=>
   rw [hr] at h3
   obtain ⟨h0,j,hj,a0,b0⟩:=rdy_some hr
   have hJ:=hF.j j (List.mem_of_getElem? hj)
   have ha:=hJ.r a0
   obtain ⟨hW,hd,_,_⟩:=hJ.b ha
   have hi:=stAt_in b0 (by decide)
   have hm:=allR_mem (k:=0) (t:=r.task) hj ha hi.1 (by rw [hW.ls,hd] at hi;exact hi.2)
   rw [show (⟨((0+r.job.toNat:Nat):Int),r.task⟩:Ref)=r by cases r;simp only at h0⊢;congr 1;omega] at hm
   have:=List.count_pos_iff.2 hm
   simp at h3;omega
 rw [allR_len] at h1
 have h2:totB F.q.bs=(F.q.bs.flatten.length:Int):=by unfold totB;rw [List.length_flatten]
 omega


theorem QI_r.few {F:FS} {K:Int} (h:QI_r F) (hF:FW F K) {L:List Ref} (hL:∀r,L.count r<=cnt F r):L.length<=totS (shapeF F.jobs):=by
 rw [<-allR_len (k:=0)]
 apply len_le
 intro r
 have h3:=h.c r
 have h4:=hL r
 cases hr:rdyJ F.jobs r with
 |false=>rw [hr] at h3;simp at h3;omega
 |true=>
  rw [hr] at h3
  obtain ⟨h0,j,hj,a0,b0⟩:=rdy_some hr
  have hJ:=hF.j j (List.mem_of_getElem? hj)
  have ha:=hJ.r a0
  obtain ⟨hW,hd,_,_⟩:=hJ.b ha
  have hi:=stAt_in b0 (by decide)
  have hm:=allR_mem (k:=0) (t:=r.task) hj ha hi.1 (by rw [hW.ls,hd] at hi;exact hi.2)
  rw [show (⟨((0+r.job.toNat:Nat):Int),r.task⟩:Ref)=r by cases r;simp only at h0⊢;congr 1;omega] at hm
  have:=List.count_pos_iff.2 hm
  simp at h3;omega
def wkOf (v:Wkr):Wk:=⟨v.phase,v.heldJob,v.heldTask,v.attempt,v.row⟩
def rdyN (a:JA):Nat:=match a.B with
  |none=>0
  |some B=>(idxOf 2 0 B.st).length
def valA (a:JA):Int:=if runJ a=true then ((rdyN a:Nat):Int) else 0
def rsum (l:List JA):Int:=(l.map valA).sum
structure Rel (F:FS) (nj:Nat) (m:MS):Prop where
  wl:m.ws=F.ws.map wkOf
  jl:m.jobs.length=nj
  jb:∀k j,k<nj->F.jobs[k]?=some j->∃a,m.jobs[k]?=some a/\a.B=some j.B/\runJ a=j.running/\a.T.map Task.v=j.tasks
  rd:m.rd=rsum m.jobs
theorem rsum_set:∀{l:List JA} {k:Nat} {a a':JA},l[k]?=some a->rsum (l.set k a')+valA a=rsum l+valA a'
  |[],_,_,_,h=>by cases h
  |x::l,0,a,a',h=>by
    obtain rfl:x=a:=by simpa using h
    simp only [rsum,List.set_cons_zero,List.map_cons,List.sum_cons];omega
  |x::l,k+1,a,a',h=>by
    have ih:=rsum_set (l:=l) (k:=k) (a:=a) (a':=a') (by simpa using h)
    simp only [rsum,List.set_cons_succ,List.map_cons,List.sum_cons] at ih⊢;omega
theorem rsum_snoc {l:List JA} {a:JA}:rsum (l++[a])=rsum l+valA a:=by
  simp only [rsum,List.map_append,List.sum_append,List.map_cons,List.map_nil,List.sum_cons,List.sum_nil];omega
theorem len_count {A B C:List Int} (h:∀z,A.count z=B.count z+C.count z):A.length=B.length+C.length:=by
  rw [<-List.length_append]
  exact (List.perm_iff_count.2 (fun z=>by rw [List.count_append];exact h z)).length_eq
theorem count_one {t z:Int}:List.count z [t]=if t=z then 1 else 0:=by
  rw [List.count_cons,List.count_nil]
  by_cases h:t=z<;>simp [h]
theorem idx_start {B:BS} {t y:Int} (h:stAt B.st t=2) (hy:y≠2):(idxOf 2 0 B.st).length=(idxOf 2 0 (B.st.set t.toNat y)).length+1:=by
  have a0:=stAt_in h (by decide)
  rw [show (1:Nat)=[t].length from rfl]
  apply len_count
  intro z
  rw [count_two,count_two,count_one]
  by_cases e:z=t
  · subst e;rw [stAt_self a0,if_pos h,if_neg hy,if_pos rfl]
  · rw [stAt_other a0.1 e,if_neg (show ¬t=z from fun k=>e k.symm)];omega
theorem idx_ret {B:BS} {t:Int} (h:stAt B.st t=3):(idxOf 2 0 (B.st.set t.toNat 2)).length=(idxOf 2 0 B.st).length+1:=by
  have a0:=stAt_in h (by decide)
  rw [show (1:Nat)=[t].length from rfl]
  apply len_count
  intro z
  rw [count_two,count_two,count_one]
  by_cases e:z=t
  · subst e;rw [stAt_self a0,h,if_pos rfl,if_neg (by decide),if_pos rfl]
  · rw [stAt_other a0.1 e,if_neg (show ¬t=z from fun k=>e k.symm)];omega
theorem idx_com {B:BS} {i:Int} (hl:B.st.length=B.deps.length) (hi:stAt B.st i=3):(idxOf 2 0 (markB (B.st.set i.toNat 4) B.deps)).length=(idxOf 2 0 B.st).length+(rdyB (B.st.set i.toNat 4) B.deps).length:=by
  apply len_count
  intro z
  rw [count_two,count_two]
  exact com_two hl hi
theorem idx_nil {s:List Int} (h:∀z,stAt s z≠2):idxOf 2 0 s=[]:=by
  cases hs:idxOf 2 0 s with
  |nil=>rfl
  |cons z l=>
    have h1:=count_two (s:=s) (z:=z)
    rw [if_neg (h z),hs,List.count_cons_self] at h1
    omega
theorem Rel.len {F:FS} {nj:Nat} {m:MS} (h:Rel F nj m):m.ws.length=F.ws.length:=by rw [h.wl,List.length_map]
theorem Rel.upd {F F':FS} {nj:Nat} {m:MS} (h:Rel F nj m) {k:Nat} {v:Wkr} (hw:F'.ws=F.ws.set k v) (hj:F'.jobs=F.jobs):Rel F' nj {m with ws:=m.ws.set k (wkOf v)}:=
  ⟨by rw [hw,List.map_set,h.wl],h.jl,by rw [hj];exact h.jb,h.rd⟩
section
variable {c:Cfg} {F:FS} {nj:Nat} {K:Int} {m:MS} {off:List TL}
end
section
variable {c:Cfg} {F:FS} {nj:Nat} {K:Int} {m:MS} {off:List TL}
end
end Go.Proofs.YtkadmghedmodbaaGreat

namespace Go.Proofs.YtkadmghedmodbaaGreat
open Go Go.E Go.Proofs.Tryz
set_option linter.all false
set_option maxRecDepth 100000
set_option maxHeartbeats 2000000
variable {W w:World} {H:Chunk} {F:List Chunk}
section
variable {c:Cfg} {F:FS} {nj:Nat} {K:Int} {m:MS} {off:List TL}
theorem map_at {α β:Type} {f:α->β} {l:List α} {xs ys:List β} {y:β} (h:l.map f=xs++y::ys):∃x,l[xs.length]?=some x/\f x=y:=by
  have h1:(l.map f)[xs.length]?=some y:=by rw [h,List.getElem?_append_right (Nat.le_refl _),Nat.sub_self];rfl
  rw [List.getElem?_map] at h1
  cases hx:l[xs.length]? with
  |none=>rw [hx] at h1;cases h1
  |some x=>rw [hx] at h1;exact ⟨x,rfl,Option.some.inj h1⟩
end
theorem tr_es {c:Cfg} {K:Nat} {js:List (List Task)} {es:List Evt} {F:FS} (h:Tr c K js es F):es.length<=2*K:=by
  induction h with
  |nil=>exact Nat.le_refl _
  |add l bd _ _ _ _ _ _ ih=>rw [List.length_append,List.length_singleton];omega
  |@cancel K js es F k _ ih=>have:=cancel_len (F:=F) (k:=k);rw [List.length_append];omega
  |@crash K js es F x _ ih=>have:=crash_len (F:=F) (x:=x);rw [List.length_append];omega
  |@restart K js es F x _ ih=>have:=restart_len (F:=F) (x:=x);rw [List.length_append];omega
  |@step K js es F x y _ ih=>have:=step_len (F:=F) (x:=x) (c:=y);rw [List.length_append];omega
def rkOf (v:Wk):Rk:=⟨v.phase,v.row,v.attempt,v.heldJob,v.heldTask⟩
def absR (m:MS):RS:=⟨m.ws.map rkOf,m.jobs.map (·.B),m.jobs.map (·.x)⟩
def holdM (v:Wk):Prop:=v.phase≠0/\v.phase≠4
structure MI (off:List TL) (m:MS):Prop where
  t:∀(n:Nat) (s:JA) (B:BS),m.jobs[n]?=some s->s.B=some B->∃T:TL,off[n]?=some T/\s.T=T.l.l
  rd:m.rd=rsum m.jobs
  ph:∀v∈m.ws,0<=v.phase/\v.phase<=4
  z:∀v∈m.ws,v.phase=0\/v.phase=4->v.heldJob=0/\v.heldTask=0/\v.attempt=0/\v.row=0
  h:∀v∈m.ws,holdM v->∀s B,m.jobs[v.heldJob.toNat]?=some s->s.B=some B->heldC B v.heldTask v.attempt=0
  d:∀(x y:Nat) (v u:Wk),m.ws[x]?=some v->m.ws[y]?=some u->x≠y->holdM v->holdM u->¬(v.heldJob=u.heldJob/\v.heldTask=u.heldTask)
theorem runX_eq (jobs:List JA) (j:Int):runX (jobs.map (·.B)) (jobs.map (·.x)) j=runsM jobs j:=by
  unfold runX runsM
  rw [List.length_map]
  by_cases h:0<=j/\j<(jobs.length:Int)
  · have h3:j.toNat<jobs.length:=by omega
    have h4:jobs[j.toNat]?=some jobs[j.toNat]:=List.getElem?_eq_getElem h3
    rw [decide_eq_true h,getD_some h4,getD_some (show (jobs.map (·.B))[j.toNat]?=some (jobs[j.toNat]).B by rw [List.getElem?_map,h4];rfl),getD_some (show (jobs.map (·.x))[j.toNat]?=some (jobs[j.toNat]).x by rw [List.getElem?_map,h4];rfl)]
    unfold runB runJ
    cases (jobs[j.toNat]).B<;>simp
  · rw [decide_eq_false h];rfl
theorem holdX_eq {v:Wk} (h:0<=v.phase/\v.phase<=4):holdX (rkOf v)=decide (v.phase≠0/\v.phase≠4):=by
  unfold holdX rkOf;rw [Bool.eq_iff_iff];simp only [decide_eq_true_eq];omega
theorem busyX_eq {jobs:List JA} {v:Wk} (h:0<=v.phase/\v.phase<=4):busyX (jobs.map (·.B)) (jobs.map (·.x)) (rkOf v)=busyM jobs v:=by
  unfold busyX busyM;rw [holdX_eq h,runX_eq];rfl
theorem val_nn (a:JA):0<=valA a:=by unfold valA;split<;>omega
theorem rsum_nn:∀l:List JA,0<=rsum l
  |[]=>by simp [rsum]
  |a::l=>by have h1:=val_nn a;have h2:=rsum_nn l;simp only [rsum,List.map_cons,List.sum_cons] at*;omega
theorem rsum_pos:∀{l:List JA},0<rsum l↔∃a∈l,0<valA a
  |[]=>by simp [rsum]
  |a::l=>by
    have h1:=val_nn a;have h2:=rsum_nn l;have ih:=rsum_pos (l:=l)
    have e:rsum (a::l)=valA a+rsum l:=by simp [rsum]
    rw [e]
    constructor
    · intro h
      by_cases h3:0<valA a
      · exact ⟨a,List.mem_cons_self,h3⟩
      · obtain ⟨b,hb,h4⟩:=ih.1 (by omega);exact ⟨b,List.mem_cons_of_mem _ hb,h4⟩
    · rintro ⟨b,hb,h3⟩
      rcases List.mem_cons.1 hb with rfl|hb
      · omega
      · have:=ih.2 ⟨b,hb,h3⟩;omega
theorem rdyX_eq (a:JA):rdyX a.x a.B=decide (0<valA a):=by
  have e:runB a.x a.B=runJ a:=by unfold runB runJ;cases a.B<;>simp
  unfold rdyX valA
  rw [e]
  cases hr:runJ a
  · simp
  · cases hB:a.B with
    |none=>unfold runJ at hr;rw [hB] at hr;simp at hr
    |some B=>simp only [Bool.true_and,if_true,rdyN,hB]
theorem readyX_eq (jobs:List JA):readyX (jobs.map (·.B)) (jobs.map (·.x))=decide (0<rsum jobs):=by
 rw [Bool.eq_iff_iff,decide_eq_true_eq,rsum_pos]
 unfold readyX
 rw [List.any_eq_true]
 constructor
 ·rintro ⟨j,hj,h⟩
  have hj:=List.mem_range.1 hj
  rw [List.length_map] at hj
  have h4:jobs[j]?=some jobs[j]:=List.getElem?_eq_getElem hj
  rw [getD_some (show (jobs.map (·.B))[j]?=some (jobs[j]).B by rw [List.getElem?_map,h4];rfl),getD_some (show (jobs.map (·.x))[j]?=some (jobs[j]).x by rw [List.getElem?_map,h4];rfl),rdyX_eq] at h
  exact ⟨_,List.getElem_mem hj,of_decide_eq_true h⟩
 ·rintro ⟨a,ha,h⟩
  obtain ⟨j,h4⟩:=List.getElem?_of_mem ha
  refine ⟨j,List.mem_range.2 (by rw [List.length_map];exact ((List.getElem?_eq_some_iff.1 h4).1)),?_⟩
  rw [getD_some (show (jobs.map (·.B))[j]?=some a.B by rw [List.getElem?_map,h4];rfl),getD_some (show (jobs.map (·.x))[j]?=some a.x by rw [List.getElem?_map,h4];rfl),rdyX_eq]
  exact decide_eq_true h
theorem wantX_eq {e:Evt} (h:1<=e.kind/\e.kind<=13):wantX e=namedE e:=by
  unfold wantX namedE
  repeat' split
  all_goals first|rfl|(exfalso;omega)
theorem set_at2 {α:Type} {l:List α} {k y:Nat} {v' x:α} (h:(l.set k v')[y]?=some x):(y=k/\x=v')\/(y≠k/\l[y]?=some x):=by
  rw [List.getElem?_set] at h
  by_cases e:k=y
  · rw [if_pos e] at h
    split at h
    · exact .inl ⟨e.symm,(Option.some.inj h).symm⟩
    · cases h
  · rw [if_neg e] at h;exact .inr ⟨fun k'=>e k'.symm,h⟩
section
variable {off:List TL} {m:MS} {K:Int}
theorem MW.hj (hM:MW m K) {v:Wk} (hv:v∈m.ws) (hh:holdM v):∃s B,m.jobs[v.heldJob.toNat]?=some s/\s.B=some B/\0<=v.heldJob/\v.heldJob<(m.jobs.length:Int):=by
  obtain ⟨s,B,h1,h2,h3,h4,_⟩:=(hM.w v hv).2 hh
  exact ⟨s,B,h1,h4,h2,h3⟩
theorem MI.sw (h:MI off m) {k:Nat} {v v':Wk} (hv:m.ws[k]?=some v) (hp:0<=v'.phase/\v'.phase<=4) (hz:v'.phase=0\/v'.phase=4->v'.heldJob=0/\v'.heldTask=0/\v'.attempt=0/\v'.row=0)
  (hn:holdM v'->holdM v/\v'.heldJob=v.heldJob/\v'.heldTask=v.heldTask/\v'.attempt=v.attempt):MI off {m with ws:=m.ws.set k v'}:=by
 refine ⟨h.t,h.rd,mem_set' h.ph hp,mem_set' h.z hz,mem_set' h.h ?_,?_⟩
 · exact (by intro hh s B hs hB;obtain ⟨h1,h2,h3,h4⟩:=hn hh;rw [h2] at hs;rw [h3,h4];exact h.h v (List.mem_of_getElem? hv) h1 s B hs hB)
 ·intro x y a b ha hb c0 h1 h2
  rcases set_at2 ha with ⟨e,rfl⟩|⟨e,a0⟩<;>rcases set_at2 hb with ⟨e2,rfl⟩|⟨e2,b0⟩
  ·omega
  ·obtain ⟨h3,h4,h5,_⟩:=hn h1;rw [h4,h5];exact h.d k y v b hv b0 om h3 h2
  ·obtain ⟨h3,h4,h5,_⟩:=hn h2;rw [h4,h5];exact h.d x k a v a0 hv om h1 h3
  ·exact h.d x y a b a0 b0 c0 h1 h2
theorem MI.jb (hM:MW m K) (h:MI off m) {k n:Nat} {s:JA} {B B':BS} {v':Wk} {r:Int} (hs:m.jobs[n]?=some s) (hB:s.B=some B) (hr:r=m.rd+valA {s with B:=some B'}-valA s)
  (hp:0<=v'.phase/\v'.phase<=4) (hz:v'.phase=0\/v'.phase=4->v'.heldJob=0/\v'.heldTask=0/\v'.attempt=0/\v'.row=0)
  (hn:holdM v'->v'.heldJob=(n:Int)/\heldC B' v'.heldTask v'.attempt=0/\∀(y:Nat) (u:Wk),m.ws[y]?=some u->y≠k->holdM u->u.heldJob=(n:Int)->u.heldTask≠v'.heldTask)
  (ho:∀(y:Nat) (u:Wk),m.ws[y]?=some u->y≠k->holdM u->u.heldJob=(n:Int)->heldC B' u.heldTask u.attempt=0):
  MI off ⟨m.ws.set k v',m.jobs.set n {s with B:=some B'},r⟩:=by
 refine ⟨?_,?_,mem_set' h.ph hp,mem_set' h.z hz,?_,?_⟩
 ·intro n' s2 B2 h1 h2
  rcases set_at2 h1 with ⟨e,rfl⟩|⟨_,h1⟩
  ·obtain ⟨T,a,b⟩:=h.t n s B hs hB;exact ⟨T,by rw [e];exact a,b⟩
  ·exact h.t n' s2 B2 h1 h2
 · exact (by have h1:=rsum_set (a':={s with B:=some B'}) hs;have h2:=h.rd;show r=rsum (m.jobs.set n {s with B:=some B'});omega)
 ·intro u hu hh s2 B2 h1 h2
  obtain ⟨y,hy⟩:=List.getElem?_of_mem hu
  rcases set_at2 hy with ⟨_,rfl⟩|⟨e,hy⟩
  ·obtain ⟨h3,h4,_⟩:=hn hh
   rw [h3,Int.toNat_natCast] at h1
   rcases set_at2 h1 with ⟨_,rfl⟩|⟨e2,_⟩
   ·obtain rfl:=Option.some.inj h2;exact h4
   ·exact absurd rfl e2
  ·have d0:=List.mem_of_getElem? hy
   obtain ⟨s3,B3,h3,h4,h5,h6⟩:=hM.hj d0 hh
   rcases set_at2 h1 with ⟨e2,rfl⟩|⟨_,h1⟩
   ·obtain rfl:=Option.some.inj h2;exact ho y u hy e hh om
   ·exact h.h u d0 hh s2 B2 h1 h2
 ·intro x y a b ha hb e0 h1 h2 a0
  rcases set_at2 ha with ⟨e,rfl⟩|⟨e,b0⟩<;>rcases set_at2 hb with ⟨e2,rfl⟩|⟨e2,c0⟩
  ·omega
  ·obtain ⟨h3,_,h4⟩:=hn h1;exact h4 y b c0 e2 h2 om a0.2.symm
  ·obtain ⟨h3,_,h4⟩:=hn h2;exact h4 x a b0 e h1 om a0.2
  ·exact h.d x y a b b0 c0 e0 h1 h2 a0
theorem valA_of {a:JA} {B:BS} {L:Int} (hx:a.x=false) (hB:a.B=some B) (hW:BWf B L):valA a=(((idxOf 2 0 B.st).length:Nat):Int):=by
 unfold valA rdyN
 rw [hB]
 by_cases hd:doneOf B<(B.deps.length:Int)
 ·rw [if_pos (by unfold runJ;rw [hx,hB];exact decide_eq_true hd)]
 ·have hr:¬runJ a=true:=by unfold runJ;rw [hx,hB];simp only [Bool.not_false,Bool.true_and];intro h;exact hd (of_decide_eq_true h)
  rw [if_neg hr]
  have h1:=done_le hW.ls
  have h4:=filter_allX (s:=B.st) (by have:=hW.ls;unfold doneOf at*;omega)
  have:idxOf 2 0 B.st=[]:=idx_nil fun z hz=>by
   have a0:=stAt_in hz (by decide)
   rw [stAt_nat _ a0.1] at hz
   have:=h4 _ (getD_mem (s:=B.st) (q:=z.toNat) om);omega
  rw [this];rfl
end
section
variable {off:List TL} {m m':MS} {K:Int} {k:Nat} {v:Wk} {r:Ref} {e:Evt}
theorem startB_zero {B:BS} {i:Int} (h:(startB B i).2.2=0):stAt B.st i=2:=by
  unfold startB at h
  split at h
  · split at h
    · assumption
    · cases h
  · cases h
theorem MI.take (hM:MW m K) (h:MI off m) (he:takeM m k v r=some m'):MI off m':=by
 unfold takeM at he
 split at he
 ·cases he
 ·rename_i hc
  obtain ⟨s,B,hs,h1,h2,hB,hx,_,hW,hl⟩:=runsM_some (Classical.not_not.1 hc).2 hM.j
  rw [jobA_at hs,hB] at he
  dsimp only at he
  split at he
  ·cases he
  ·rename_i hz
   obtain rfl:=Option.some.inj he
   have a0:=startB_zero (Classical.not_not.1 hz)
   have b0:=stAt_in a0 (by decide)
   have e1:=start_eq hW.ls a0
   have d0:BWf (startB B r.task).1 K:=start_wf hW
   refine MI.jb hM h (k:=k) (v':=⟨1,r.job,r.task,(startB B r.task).2.1,0⟩) hs hB ?_ ⟨by dsimp only;omega,by dsimp only;omega⟩ (fun h=>by rcases h with h|h<;>cases h) ?_ ?_
   · exact (by rw [valA_of (a:={s with B:=some (startB B r.task).1}) hx rfl d0,valA_of hx hB hW,e1];have:=idx_start (y:=3) a0 (by decide);dsimp only;omega)
   ·intro _
    refine ⟨by dsimp only;omega,?_,?_⟩
    ·rw [e1];exact heldC_of (by unfold inB;exact ⟨b0.1,by rw [<-hW.ls];exact b0.2⟩) (stAt_self b0) rfl
    · exact (by intro y u hu _ hh hj he2;have c0:=h.h u (List.mem_of_getElem? hu) hh s B (by rw [hj,Int.toNat_natCast];exact hs) hB;have h3:=(heldC_zero c0).2.1;rw [he2,a0] at h3;cases h3)
   · exact (by intro y u hu _ hh hj;have c0:=h.h u (List.mem_of_getElem? hu) hh s B (by rw [hj,Int.toNat_natCast];exact hs) hB;have h3:=(heldC_zero c0).2.1;have e0:u.heldTask≠r.task:=fun e=>(by rw [e,a0] at h3;cases h3);rw [e1];exact heldC_keep c0 rfl (stAt_other b0.1 e0) rfl)
end
section
variable {off:List TL} {m m':MS} {K:Int} {k:Nat} {v:Wk} {r:Ref} {e:Evt}
theorem holdM_no0:¬holdM ⟨0,0,0,0,0⟩:=fun h=>h.1 rfl
theorem holdM_no4:¬holdM ⟨4,0,0,0,0⟩:=fun h=>h.2 rfl
theorem MI.micro (hM:MW m K) (h:MI off m) (hv:m.ws[k]?=some v) (hb:busyM m.jobs v=true) (he:microM m k v e=some m'):MI off m':=by
 have d0:=List.mem_of_getElem? hv
 have a0:=hb
 unfold busyM at a0
 obtain ⟨b0,c0⟩:=(Bool.and_eq_true _ _).mp a0
 have hh:holdM v:=(of_decide_eq_true b0:v.phase≠0/\v.phase≠4)
 obtain ⟨s,B,hs,h1,h2,hB,hx,_,hW,hl⟩:=runsM_some c0 hM.j
 have hz:=h.h v d0 hh s B hs hB
 unfold microM at he
 rw [jobA_at hs,hB] at he
 dsimp only at he
 split at he
 · exact (by obtain rfl:=Option.some.inj he;exact h.sw hv ⟨by dsimp only;omega,by dsimp only;omega⟩ (fun h=>by rcases h with h|h<;>cases h) (fun _=>⟨hh,rfl,rfl,rfl⟩))
 ·split at he
  · exact (by obtain rfl:=Option.some.inj he;exact h.sw hv ⟨by dsimp only;split<;>omega,by dsimp only;split<;>omega⟩ (fun h=>by dsimp only at h;split at h<;>omega) (fun _=>⟨hh,rfl,rfl,rfl⟩))
  ·split at he
   ·split at he
    ·cases he
    ·obtain rfl:=Option.some.inj he
     refine MI.jb hM h (k:=k) (v':=⟨0,0,0,0,0⟩) hs hB ?_ ⟨by dsimp only;omega,by dsimp only;omega⟩ (fun _=>⟨rfl,rfl,rfl,rfl⟩) (fun h=>absurd h holdM_no0) ?_
     · exact (by rw [valA_of (a:={s with B:=some (comB B v.heldTask v.attempt).1}) hx rfl (com_wf hW),valA_of hx hB hW,com_eq hz];have:=idx_com hW.ls (heldC_zero hz).2.1;dsimp only;omega)
     · exact (by intro y u hu hy hhu hj;have e0:=h.h u (List.mem_of_getElem? hu) hhu s B (by rw [hj,Int.toNat_natCast];exact hs) hB;exact com_held hW.ls hz e0 fun ht=>h.d y k u v hu hv hy hhu hh ⟨om,ht⟩)
   ·cases he
theorem MI.drop (h:MI off m) (hv:m.ws[k]?=some v) (he:dropM m k v r=some m'):MI off m':=by
  unfold dropM at he
  split at he
  · exact (by obtain rfl:=Option.some.inj he;exact h.sw hv ⟨by dsimp only;omega,by dsimp only;omega⟩ (fun _=>⟨rfl,rfl,rfl,rfl⟩) (fun h=>absurd h holdM_no0))
  · cases he
theorem MI.crash (hM:MW m K) (h:MI off m) (hv:m.ws[k]?=some v) (he:crashM m k v r=some m'):MI off m':=by
 unfold crashM at he
 split at he
 ·cases he
 ·rename_i hc
  split at he
  ·rename_i hb
   have a0:=hb
   unfold busyM at a0
   obtain ⟨b0,c0⟩:=(Bool.and_eq_true _ _).mp a0
   have hh:holdM v:=(of_decide_eq_true b0:v.phase≠0/\v.phase≠4)
   obtain ⟨s,B,hs,h1,h2,hB,hx,_,hW,hl⟩:=runsM_some c0 hM.j
   have hz:=h.h v (List.mem_of_getElem? hv) hh s B hs hB
   have er:v.heldJob=r.job/\v.heldTask=r.task:=Classical.byContradiction fun d0=>hc (.inr d0)
   rw [<-er.1,<-er.2,jobA_at hs,hB] at he
   dsimp only at he
   split at he
   ·cases he
   ·obtain rfl:=Option.some.inj he
    refine MI.jb hM h (k:=k) (v':=⟨4,0,0,0,0⟩) hs hB ?_ ⟨by dsimp only;omega,by dsimp only;omega⟩ (fun _=>⟨rfl,rfl,rfl,rfl⟩) (fun h=>absurd h holdM_no4) ?_
    · exact (by rw [valA_of (a:={s with B:=some (retB B v.heldTask v.attempt)}) hx rfl ((ret_wf hW)),valA_of hx hB hW,ret_eq hz];have:=idx_ret (heldC_zero hz).2.1;dsimp only;omega)
    · exact (by intro y u hu hy hhu hj;have e0:=h.h u (List.mem_of_getElem? hu) hhu s B (by rw [hj,Int.toNat_natCast];exact hs) hB;exact ret_held hz e0 fun ht=>h.d y k u v hu hv hy hhu hh ⟨om,ht⟩)
  · exact (by obtain rfl:=Option.some.inj he;exact h.sw hv ⟨by dsimp only;omega,by dsimp only;omega⟩ (fun _=>⟨rfl,rfl,rfl,rfl⟩) (fun h=>absurd h holdM_no4))
theorem MI.cancel (hM:MW m K) (h:MI off m) {n:Int} (he:cancelM m n=some m'):MI off m':=by
 unfold cancelM at he
 split at he
 ·rename_i hr
  obtain ⟨s,B,hs,h1,h2,hB,hx,_,hW,hl⟩:=runsM_some hr hM.j
  rw [jobA_at hs,hB] at he
  dsimp only at he
  obtain rfl:=Option.some.inj he
  refine ⟨?_,?_,h.ph,h.z,?_,h.d⟩
  ·intro n' s2 B2 h3 h4
   rcases set_at2 h3 with ⟨e,rfl⟩|⟨_,h3⟩
   ·obtain ⟨T,a,b⟩:=h.t n.toNat s B hs hB;exact ⟨T,by rw [e];exact a,b⟩
   ·exact h.t n' s2 B2 h3 h4
  · exact (by have h3:=rsum_set (a':={s with x:=true}) hs;have h4:=h.rd;have h5:valA {s with x:=true}=0:=(by unfold valA runJ;simp);rw [valA_of hx hB hW] at h3;show m.rd-_=rsum (m.jobs.set n.toNat {s with x:=true});omega)
  ·intro u hu hh s2 B2 h3 h4
   rcases set_at2 h3 with ⟨e,rfl⟩|⟨_,h3⟩
   ·exact h.h u hu hh s B2 (by rw [e];exact hs) h4
   ·exact h.h u hu hh s2 B2 h3 h4
 ·cases he
theorem MI.add (hM:MW m K) (h:MI off m) {s:JA} {r:Int} (hr:r=m.rd+valA s) (ht:∀B,s.B=some B->∃T:TL,off[m.jobs.length]?=some T/\s.T=T.l.l):MI off {m with jobs:=m.jobs++[s],rd:=r}:=by
 refine ⟨?_,?_,h.ph,h.z,?_,h.d⟩
 ·intro n s2 B2 h1 h2
  by_cases hn:n<m.jobs.length
  ·exact h.t n s2 B2 (by dsimp only at h1;rwa [List.getElem?_append_left hn] at h1) h2
  · exact (by dsimp only at h1;rw [List.getElem?_append_right om] at h1;have hl:=(List.getElem?_eq_some_iff.1 h1).1;rw [List.length_singleton] at hl;have e:n=m.jobs.length:=(by omega);subst e;rw [Nat.sub_self] at h1;obtain rfl:=Option.some.inj h1;exact ht B2 h2)
 ·show r=rsum (m.jobs++[s]);rw [rsum_snoc,hr,h.rd]
 · exact (by intro u hu hh s2 B2 h1 h2;obtain ⟨s3,B3,h3,h4,h5,h6⟩:=hM.hj hu hh;dsimp only at h1;rw [List.getElem?_append_left om] at h1;exact h.h u hu hh s2 B2 h1 h2)
theorem MI.submit (hM:MW m K) (h:MI off m) (he:submitM off m e=some m'):MI off m':=by
 unfold submitM at he
 split at he
 ·cases he
 ·rename_i hj
  have hj:=Classical.not_not.1 hj
  split at he
  · exact (by obtain rfl:=Option.some.inj he;exact h.add hM (s:=⟨[],none,false⟩) (by unfold valA runJ;simp) (fun B hB=>by cases hB))
  ·split at he
   ·cases he
   ·rename_i T hT
    split at he
    ·cases he
    · exact (by rename_i hv;have hv:=Classical.not_not.1 hv;obtain rfl:=Option.some.inj he;exact h.add hM (s:=⟨T.l.l,some (newB T.l.l),false⟩) (by rw [valA_of (a:=⟨T.l.l,some (newB T.l.l),false⟩) rfl rfl (new_wf hv)]) (fun B hB=>⟨T,by rw [hj,Int.toNat_natCast] at hT;exact hT,rfl⟩))
theorem MI.new (off:List TL) (c:Cfg):MI off (startM c):=by
  refine ⟨(fun n s B h=>by cases h),rfl,?_,?_,?_,?_⟩
  · intro v hv;rw [List.eq_of_mem_replicate hv];exact ⟨by decide,by decide⟩
  · intro v hv _;rw [List.eq_of_mem_replicate hv];exact ⟨rfl,rfl,rfl,rfl⟩
  · intro v hv hh;rw [List.eq_of_mem_replicate hv] at hh;exact absurd hh holdM_no0
  · intro x y v u hv _ _ hh;rw [List.eq_of_mem_replicate (List.mem_of_getElem? hv)] at hh;exact absurd hh holdM_no0
end
section
variable {off:List TL} {m m':MS} {K:Int} {k:Nat} {v:Wk} {r:Ref} {e:Evt} {l:List Evt}
theorem map_B {jobs:List JA} {n:Nat} {s:JA} (h:jobs[n]?=some s):(jobs.map (·.B)).getD n none=s.B:=getD_some (by rw [List.getElem?_map,h];rfl)
theorem map_x {jobs:List JA} {n:Nat} {s:JA} (h:jobs[n]?=some s):(jobs.map (·.x)).getD n false=s.x:=getD_some (by rw [List.getElem?_map,h];rfl)
theorem set_B {jobs:List JA} {n:Nat} {s:JA} {b:Bool} (h:jobs[n]?=some s):(jobs.set n ⟨s.T,s.B,b⟩).map (·.B)=jobs.map (·.B):=by
  rw [List.map_set];exact set_same (by rw [List.getElem?_map,h];rfl)
theorem set_x {jobs:List JA} {n:Nat} {s:JA} {B:Option BS} (h:jobs[n]?=some s):(jobs.set n ⟨s.T,B,s.x⟩).map (·.x)=jobs.map (·.x):=by
  rw [List.map_set];exact set_same (by rw [List.getElem?_map,h];rfl)
theorem sub_same:submitX off (m.ws.map rkOf) (m.jobs.map (·.B)) (m.jobs.map (·.x)) e=(submitM off m e).map absR:=by
  unfold submitX submitM
  rw [List.length_map]
  by_cases h1:e.job≠(m.jobs.length:Int)
  · rw [if_pos h1,if_pos h1];rfl
  · rw [if_neg h1,if_neg h1]
    by_cases h2:e.err≠0
    · rw [if_pos h2,if_pos h2];simp [absR]
    · rw [if_neg h2,if_neg h2]
      cases off[e.job.toNat]? with
      |none=>rfl
      |some T=>
        dsimp only
        by_cases h3:validC T.l.l≠0
        · rw [if_pos h3,if_pos h3];rfl
        · rw [if_neg h3,if_neg h3];simp [absR]
theorem can_same (hM:MW m K):(if runX (m.jobs.map (·.B)) (m.jobs.map (·.x)) e.job=true then some (⟨m.ws.map rkOf,m.jobs.map (·.B),(m.jobs.map (·.x)).set e.job.toNat true⟩:RS) else none)=(cancelM m e.job).map absR:=by
  rw [runX_eq]
  unfold cancelM
  by_cases h:runsM m.jobs e.job=true
  · exact (by rw [if_pos h,if_pos h];obtain ⟨s,B,hs,h1,h2,hB,hx,_,hW,hl⟩:=runsM_some h hM.j;rw [jobA_at hs,hB];show _=some (absR _);unfold absR;dsimp only;rw [set_B hs,List.map_set])
  · rw [if_neg h,if_neg h];rfl
theorem take_same (hM:MW m K) (hn:¬(e.kind=5/\e.from_=e.worker)):takeX (m.ws.map rkOf) (m.jobs.map (·.B)) (m.jobs.map (·.x)) k (rkOf v) e=(takeM m k v ⟨e.refJob,e.refTask⟩).map absR:=by
 unfold takeX takeM
 rw [runX_eq]
 by_cases hc:v.phase=0/\runsM m.jobs e.refJob=true
 ·obtain ⟨s,B,hs,h1,h2,hB,hx,_,hW,hl⟩:=runsM_some hc.2 hM.j
  rw [if_neg (by rintro (h|h|h);exact h hc.1;exact h hc.2;exact hn h),if_neg (fun h=>h hc),map_B hs,hB]
  dsimp only
  rw [jobA_at hs,hB]
  dsimp only
  by_cases h3:(startB B e.refTask).2.2≠0
  ·rw [if_pos h3,if_pos h3];rfl
  · exact (by rw [if_neg h3,if_neg h3];show _=some (absR _);unfold absR;dsimp only;rw [set_x hs,List.map_set,List.map_set];rfl)
 ·rw [if_pos (by by_cases h:v.phase=0;exact .inr (.inl fun h2=>hc ⟨h,h2⟩);exact .inl h),if_pos hc];rfl
theorem micro_same9 (hM:MW m K) (h:MI off m) (hv:m.ws[k]?=some v):microX off (m.ws.map rkOf) (m.jobs.map (·.B)) (m.jobs.map (·.x)) k (rkOf v) e=(if busyM m.jobs v=true then microM m k v e else none).map absR:=by
 have c0:=List.mem_of_getElem? hv
 unfold microX
 rw [busyX_eq (h.ph v c0)]
 by_cases hb:busyM m.jobs v=true
 ·rw [if_neg (fun k=>k hb),if_pos hb]
  have b0:=hb
  unfold busyM at b0
  obtain ⟨d0,e0⟩:=(Bool.and_eq_true _ _).mp b0
  have hh:holdM v:=(of_decide_eq_true d0:v.phase≠0/\v.phase≠4)
  obtain ⟨s,B,hs,h1,h2,hB,hx,_,hW,hl⟩:=runsM_some e0 hM.j
  have hz:=h.h v c0 hh s B hs hB
  obtain ⟨T,hT,f0⟩:=h.t _ s B hs hB
  have a0:rowsX off (rkOf v)=(s.T.getD v.heldTask.toNat default).rows:=(by unfold rowsX;rw [getD_some (show (off.map fun z:TL=>z.l.l)[(rkOf v).heldJob.toNat]?=some T.l.l by rw [List.getElem?_map];show (off[v.heldJob.toNat]?).map _=_;rw [hT];rfl),f0];rfl)
  unfold microM
  rw [jobA_at hs,hB]
  dsimp only
  rw [a0]
  by_cases h6:e.kind=6/\v.phase=1
  · exact (by rw [if_pos (show e.kind=6/\(rkOf v).phase=1 from h6),if_pos h6];show _=some (absR _);unfold absR;dsimp only;rw [List.map_set];rfl)
  ·rw [if_neg (show ¬(e.kind=6/\(rkOf v).phase=1) from h6),if_neg h6]
   by_cases h7:e.kind=7/\v.phase=2
   · exact (by rw [if_pos (show e.kind=7/\(rkOf v).phase=2 from h7),if_pos h7];show _=some (absR _);unfold absR;dsimp only;rw [List.map_set];rfl)
   ·rw [if_neg (show ¬(e.kind=7/\(rkOf v).phase=2) from h7),if_neg h7]
    by_cases h8:e.kind=8/\v.phase=3/\e.refJob=v.heldJob/\e.refTask=v.heldTask
    · exact (by rw [if_pos (show e.kind=8/\(rkOf v).phase=3/\e.refJob=(rkOf v).heldJob/\e.refTask=(rkOf v).heldTask from h8),if_pos h8,if_neg (fun k=>k hz)];show (match (m.jobs.map (·.B)).getD v.heldJob.toNat none with|none=>none|some B=>some _)=_;rw [map_B hs,hB];show _=some (absR _);unfold absR;dsimp only;rw [set_x hs,List.map_set,List.map_set];rfl)
    ·rw [if_neg (show ¬(e.kind=8/\(rkOf v).phase=3/\e.refJob=(rkOf v).heldJob/\e.refTask=(rkOf v).heldTask) from h8),if_neg h8];rfl
 ·rw [if_pos hb,if_neg hb];rfl
theorem drop_same9 (hM:MW m K) (h:MI off m) (hv:m.ws[k]?=some v):(if holdX (rkOf v)=true/\((rkOf v).heldJob=e.refJob/\(rkOf v).heldTask=e.refTask)/\(m.jobs.map (·.x)).getD e.refJob.toNat false=true then some (⟨(m.ws.map rkOf).set k ⟨0,0,0,0,0⟩,m.jobs.map (·.B),m.jobs.map (·.x)⟩:RS) else none)=(dropM m k v ⟨e.refJob,e.refTask⟩).map absR:=by
 have a0:=List.mem_of_getElem? hv
 unfold dropM
 rw [holdX_eq (h.ph v a0)]
 by_cases hh:holdM v
 ·by_cases he:v.heldJob=e.refJob/\v.heldTask=e.refTask
  ·obtain ⟨s,B,hs,hB,h1,h2⟩:=hM.hj a0 hh
   rw [he.1] at hs
   rw [map_x hs,jobA_at hs]
   by_cases hx:s.x=true
   · exact (by rw [if_pos ⟨decide_eq_true hh,he,hx⟩,if_pos ⟨hh,he.1,he.2,hx⟩];show _=some (absR _);unfold absR;dsimp only;rw [List.map_set];rfl)
   ·rw [if_neg (fun k=>hx k.2.2),if_neg (fun k=>hx k.2.2.2)];rfl
  ·rw [if_neg (fun k=>he k.2.1),if_neg (fun k=>he ⟨k.2.1,k.2.2.1⟩)];rfl
 ·rw [if_neg (fun k=>hh (of_decide_eq_true k.1:v.phase≠0/\v.phase≠4)),if_neg (fun k=>hh k.1)];rfl
theorem crash_same9 (hM:MW m K) (h:MI off m) (hv:m.ws[k]?=some v):crashX (m.ws.map rkOf) (m.jobs.map (·.B)) (m.jobs.map (·.x)) k (rkOf v) e=(crashM m k v ⟨e.refJob,e.refTask⟩).map absR:=by
 have hvm:=List.mem_of_getElem? hv
 unfold crashX crashM
 rw [busyX_eq (h.ph v hvm)]
 by_cases hc:v.phase=4\/¬(v.heldJob=e.refJob/\v.heldTask=e.refTask)
 ·rw [if_pos (show (rkOf v).phase=4\/¬(e.refJob=(rkOf v).heldJob/\e.refTask=(rkOf v).heldTask) from hc.imp id (fun k h=>k ⟨h.1.symm,h.2.symm⟩)),if_pos hc];rfl
 ·rw [if_neg (show ¬((rkOf v).phase=4\/¬(e.refJob=(rkOf v).heldJob/\e.refTask=(rkOf v).heldTask)) from fun k=>hc (k.imp id (fun k h=>k ⟨h.1.symm,h.2.symm⟩))),if_neg hc]
  by_cases hb:busyM m.jobs v=true
  ·rw [if_pos hb,if_pos hb]
   have hb':=hb
   unfold busyM at hb'
   obtain ⟨hb1,hb2⟩:=(Bool.and_eq_true _ _).mp hb'
   have hh:holdM v:=(of_decide_eq_true hb1:v.phase≠0/\v.phase≠4)
   obtain ⟨s,B,hs,h1,h2,hB,hx,_,hW,hl⟩:=runsM_some hb2 hM.j
   have hz:=h.h v hvm hh s B hs hB
   have er:v.heldJob=e.refJob/\v.heldTask=e.refTask:=Classical.byContradiction fun hne=>hc (.inr hne)
   show (match (m.jobs.map (·.B)).getD v.heldJob.toNat none with|none=>none|some B=>some _)=_
   rw [map_B hs,hB,<-er.1,<-er.2,jobA_at hs,hB]
   dsimp only
   rw [if_neg (fun k=>k hz)]
   show _=some (absR _);unfold absR;dsimp only;rw [set_x hs,List.map_set,List.map_set];rfl
  ·rw [if_neg hb,if_neg hb]
   show _=some (absR _);unfold absR;dsimp only;rw [List.map_set];rfl
theorem any_same (h:MI off m):(m.ws.map rkOf).any (busyX (m.jobs.map (·.B)) (m.jobs.map (·.x)))=m.ws.any (busyM m.jobs):=by
  rw [Bool.eq_iff_iff,List.any_eq_true,List.any_eq_true]
  constructor
  · exact (by rintro ⟨x,hx,hb⟩;obtain ⟨v,hv,rfl⟩:=List.mem_map.1 hx;exact ⟨v,hv,by rw [<-busyX_eq (h.ph v hv)];exact hb⟩)
  · exact (by rintro ⟨v,hv,hb⟩;exact ⟨rkOf v,List.mem_map.2 ⟨v,hv,rfl⟩,by rw [busyX_eq (h.ph v hv)];exact hb⟩)
end
section
variable {off:List TL} {m m':MS} {K:Int} {k:Nat} {v:Wk} {r:Ref} {e:Evt} {l:List Evt}
theorem help_same (h:MI off m) (hu:m.ws[e.from_.toNat]?=some v) {u:Wk}:helpX (m.ws.map rkOf) (m.jobs.map (·.B)) (m.jobs.map (·.x)) (rkOf u) e l=(decide (e.from_≠e.worker)&&helpM m.jobs m.ws m.rd u e.from_ l):=by
 have a0:(m.ws.map rkOf)[e.from_.toNat]?=some (rkOf v):=by rw [List.getElem?_map,hu];rfl
 unfold helpX helpM
 rw [getD_some a0,getD_some hu,busyX_eq (h.ph v (List.mem_of_getElem? hu)),readyX_eq,<-h.rd]
 rw [Bool.eq_iff_iff]
 cases l.head? with
 |none=>simp
 |some n=>
  simp only [Bool.and_eq_true,decide_eq_true_eq,Bool.not_eq_true',decide_eq_false_iff_not]
  constructor
  ·rintro ⟨⟨a,b⟩,c,d,e1,e2⟩;exact ⟨b,a,c,om,e2,e1⟩
  ·rintro ⟨b,a,c,d,e2,e1⟩;exact ⟨⟨a,b⟩,c,om,e1,e2⟩
theorem named_from (h:e=namedE e) (h5:¬e.kind=5) (h12:¬e.kind=12):e.from_=0:=by
  have h1:=congrArg Evt.from_ h
  unfold namedE at h1
  (repeat' split at h1)<;>first|exact h1|omega
theorem ev_same (hM:MW m K) (h:MI off m) (hw:1<=m.ws.length):eventX off (m.ws.map rkOf) (m.jobs.map (·.B)) (m.jobs.map (·.x)) e l=(eventM off m e l).map absR:=by
 have f0:(m.ws.map rkOf).length=m.ws.length:=List.length_map ..
 by_cases hk:1<=e.kind/\e.kind<=13
 ·have c0:=wantX_eq hk
  by_cases hf:fitsX (m.ws.map rkOf).length e=true
  ·obtain ⟨h1,h2⟩:=fits_in hf om
   rw [f0] at h1 h2
   have hn:e=namedE e:=by
    rw [<-c0]
    unfold fitsX at hf
    split at hf
    ·exact of_decide_eq_true hf
    ·exact (of_decide_eq_true hf).1
   obtain ⟨v,hv⟩:∃v,m.ws[e.worker.toNat]?=some v:=⟨_,List.getElem?_eq_getElem om⟩
   obtain ⟨u,hu⟩:∃u,m.ws[e.from_.toNat]?=some u:=⟨_,List.getElem?_eq_getElem om⟩
   have b0:(m.ws.map rkOf)[e.worker.toNat]?=some (rkOf v):=by rw [List.getElem?_map,hv];rfl
   have h0:=List.mem_of_getElem? hv
   rw [ev_in hn h1 hv]
   rcases (by omega:e.kind=1\/e.kind=2\/(e.kind=3\/e.kind=4)\/e.kind=5\/(e.kind=6\/e.kind=7\/e.kind=8)\/e.kind=9\/e.kind=10\/e.kind=11\/e.kind=12\/e.kind=13) with q|q|q|q|q|q|q|q|q|q
   ·rw [evX_1 hf q,evK_1 q];exact sub_same
   ·rw [evX_2 hf q,evK_2 q];exact can_same hM
   ·rw [evX_3 hf b0 om,evK_3 q];exact take_same hM om
   ·rw [evX_3 hf b0 om,evK_5 q]
    by_cases a0:e.from_=e.worker
    · exact (by rw [if_neg (by unfold anotherE;rw [decide_eq_false (fun h=>h.2.2 a0)];decide)];unfold takeX;rw [if_pos (.inr (.inr ⟨q,a0⟩))];rfl)
    ·rw [if_pos (by unfold anotherE;exact decide_eq_true ⟨h2.1,h2.2,a0⟩)];exact take_same hM (fun h=>a0 h.2)
   ·rw [evX_6 hf b0 q,evK_6 q];exact micro_same9 hM h hv
   ·rw [evX_9 hf b0 q,evK_9 q];exact drop_same9 hM h hv
   ·rw [evX_10 hf b0 q,evK_10 q];exact crash_same9 hM h hv
   ·rw [evX_11 hf b0 q,evK_11 q]
    by_cases hp:v.phase=4
    · exact (by obtain ⟨z1,z2,z3,z4⟩:=h.z v h0 (.inr hp);rw [if_pos hp,if_pos (show (rkOf v).phase=4 from hp)];show _=some (absR _);unfold absR;dsimp only;rw [List.map_set];simp only [rkOf,z1,z2,z3,z4])
    ·rw [if_neg hp,if_neg (show ¬(rkOf v).phase=4 from hp)];rfl
   ·rw [evX_12 hf b0 q,evK_12 q,help_same h hu]
    by_cases a0:e.from_=e.worker
    ·rw [if_neg (by rw [decide_eq_false (fun k=>k a0)];simp),if_neg (fun k=>by have k1:=k.1;unfold anotherE at k1;exact (of_decide_eq_true k1).2.2 a0)];rfl
    ·by_cases hh:helpM m.jobs m.ws m.rd v e.from_ l=true
     ·rw [if_pos (by rw [decide_eq_true a0,hh];rfl),if_pos ⟨by unfold anotherE;exact decide_eq_true ⟨h2.1,h2.2,a0⟩,hh⟩];rfl
     ·rw [if_neg (fun k=>hh ((Bool.and_eq_true _ _).mp k).2),if_neg (fun k=>hh k.2)];rfl
   ·rw [evX_13 hf b0 q,evK_13 q,any_same h,readyX_eq,<-h.rd]
    have g0:=rsum_nn m.jobs;rw [<-h.rd] at g0
    by_cases ha:m.ws.any (busyM m.jobs)=true
    ·rw [if_pos ha,if_neg (fun k=>k.2.2 ha)];rfl
    ·rw [if_neg ha]
     by_cases hp:v.phase=0/\m.rd=0
     ·rw [if_pos ⟨hp.1,by rw [decide_eq_true_eq];omega⟩,if_pos ⟨hp.1,hp.2,ha⟩];rfl
     ·rw [if_neg (fun k=>hp ⟨k.1,by have:=k.2;rw [decide_eq_true_eq] at this;omega⟩),if_neg (fun k=>hp ⟨k.1,k.2.1⟩)];rfl
  ·rw [evX_no (fun h=>hf h.2)]
   unfold eventM
   split
   ·rename_i hc
    obtain ⟨hn,h1,h2⟩:=hc
    have e0:0<=e.from_/\e.from_<(m.ws.length:Int)->False:=fun h3=>hf (by
     unfold fitsX;rw [f0]
     split
     ·exact decide_eq_true (hn.trans c0.symm)
     ·exact decide_eq_true ⟨hn.trans c0.symm,⟨h1,h2⟩,h3⟩)
    have ha:¬anotherE m.ws.length e=true:=fun k=>by unfold anotherE at k;have:=of_decide_eq_true k;exact e0 ⟨this.1,this.2.1⟩
    by_cases h5:e.kind=5
    ·rw [evK_5 h5,if_neg ha];rfl
    ·by_cases d0:e.kind=12
     ·rw [evK_12 d0,if_neg (fun k=>ha k.1)];rfl
     ·have:=named_from hn h5 d0;exact (e0 om).elim
   ·rfl
 ·rw [evX_no (fun h=>hk h.1)]
  unfold eventM
  split
  ·rw [evK_no hk];rfl
  ·rfl
end
section
variable {off:List TL} {m m':MS} {K:Int} {e:Evt} {l:List Evt}
theorem MI.event (hM:MW m K) (h:MI off m) (he:eventM off m e l=some m'):MI off m':=by
 unfold eventM at he
 split at he
 ·rename_i hc
  have hv:m.ws[e.worker.toNat]?=some (m.ws.getD e.worker.toNat default):=(by have h1:e.worker.toNat<m.ws.length:=(by omega);rw [List.getD_eq_getElem?_getD,List.getElem?_eq_getElem h1];rfl)
  generalize m.ws.getD e.worker.toNat default=v at he hv
  by_cases h1:e.kind=1
  ·rw [evK_1 h1] at he;exact h.submit hM he
  by_cases h2:e.kind=2
  ·rw [evK_2 h2] at he;exact h.cancel hM he
  by_cases h3:e.kind=3\/e.kind=4
  ·rw [evK_3 h3] at he;exact h.take hM he
  by_cases h5:e.kind=5
  ·rw [evK_5 h5] at he
   split at he
   ·exact h.take hM he
   ·cases he
  by_cases h6:e.kind=6\/e.kind=7\/e.kind=8
  ·rw [evK_6 h6] at he
   split at he
   ·rename_i hb;exact h.micro hM hv hb he
   ·cases he
  by_cases h9:e.kind=9
  ·rw [evK_9 h9] at he;exact h.drop hv he
  by_cases a0:e.kind=10
  ·rw [evK_10 a0] at he;exact h.crash hM hv he
  by_cases b0:e.kind=11
  ·rw [evK_11 b0] at he
   split at he
   · exact (by rename_i hp;obtain rfl:=Option.some.inj he;obtain ⟨z1,z2,z3,z4⟩:=h.z v (List.mem_of_getElem? hv) (.inr hp);exact h.sw hv ⟨by dsimp only;omega,by dsimp only;omega⟩ (fun _=>⟨z1,z2,z3,z4⟩) (fun k=>absurd rfl k.1))
   ·cases he
  by_cases c0:e.kind=12
  ·rw [evK_12 c0] at he
   split at he
   ·obtain rfl:=Option.some.inj he;exact h
   ·cases he
  by_cases d0:e.kind=13
  ·rw [evK_13 d0] at he
   split at he
   ·obtain rfl:=Option.some.inj he;exact h
   ·cases he
  rw [evK_no om] at he;cases he
 ·cases he
theorem wsx_of (hM:MW m K) (h:MI off m):WsX off (m.ws.map rkOf) (m.jobs.map (·.B)) (m.jobs.map (·.x)):=by
 intro x hx
 obtain ⟨v,hv,rfl⟩:=List.mem_map.1 hx
 have hw:=hM.w v hv
 have hk:=hM.k
 refine ⟨⟨hw.1.1,by show v.row<=_;omega⟩,?_,?_⟩
 · exact (by intro hh;rw [holdX_eq (h.ph v hv)] at hh;obtain ⟨s,B,h1,h2,h3,h4,_⟩:=hw.2 (of_decide_eq_true hh);rw [List.length_map];exact ⟨h2,h3⟩)
 · exact (by intro hb;rw [busyX_eq (h.ph v hv)] at hb;obtain ⟨a0,c0⟩:=(Bool.and_eq_true _ _).mp (show (decide (v.phase≠0/\v.phase≠4)&&runsM m.jobs v.heldJob)=true from hb);obtain ⟨s,B,h1,h2,h3,h4,h5,h6⟩:=hw.2 (of_decide_eq_true a0);obtain ⟨T,hT,b0⟩:=h.t _ s B h1 h4;rw [b0] at h6;exact ⟨T,T.l.l[v.heldTask.toNat]'om,hT,List.getElem?_eq_getElem (show v.heldTask.toNat<_ by omega),h2,h5⟩)
theorem bwf_of (hM:MW m K):∀B,some B∈m.jobs.map (·.B)->BWf B K:=by
  intro B hB
  obtain ⟨s,hs,hb⟩:=List.mem_map.1 hB
  exact (hM.j s hs B hb).1
theorem ev_some (hM:MW m K) (h:MI off m) (hw:1<=m.ws.length) {r:RS} (he:eventX off (m.ws.map rkOf) (m.jobs.map (·.B)) (m.jobs.map (·.x)) e l=some r):∃m',eventM off m e l=some m'/\r=absR m':=by
  rw [ev_same hM h hw] at he
  cases h1:eventM off m e l with
  |none=>rw [h1] at he;cases he
  |some m'=>rw [h1] at he;exact ⟨m',rfl,(Option.some.inj he).symm⟩
theorem ev_none (hM:MW m K) (h:MI off m) (hw:1<=m.ws.length) (he:eventX off (m.ws.map rkOf) (m.jobs.map (·.B)) (m.jobs.map (·.x)) e l=none):eventM off m e l=none:=by
  rw [ev_same hM h hw] at he
  cases h1:eventM off m e l with
  |none=>rfl
  |some m'=>rw [h1] at he;cases he
end
theorem rx_check (c:Cfg) (ao:Option Addr) (no ko:Nat) (o:List TL) (al:Option Addr) (nl kl:Nat) (l:List Evt) (ho:RdT encTL 1 [H] ao no ko o) (do_:∀z∈o,TL.Ok [H] z) (hl:RdT encEvt 7 [H] al nl kl l) (hlb:l.length<=100000) (hS:Sat W w (H::F)):
  Ro prog 38 #[.agg (encCfg c).toArray, .slice ao no ko, .slice al nl kl] (.tuple #[I ((checkM o c l).1), .bool ((checkM o c l).2)]) W w (H::F):=by
 have K0:=ho.ll
 have J0:=hl.ll
 refine callsK 39 func38 rfl<|jCO 2 rfl<|sBx hS (encCfg c) fun c0 _ k0=>gOO k0 8 [800] rfl<|cS (r26_valid c k0.flat) fun _ d0=>jOC 3 rfl<|CN (validCfg c) 0 (fun e0=>jCR 8 rfl<|retT [I 0, .bool false]<|(by have o0:=(d0.dropAt 0 rfl);have F0:checkM o c l=(0,false):=(by unfold checkM;rw [if_neg e0]);rw [F0];exact ⟨rfl,o0⟩)) fun e0=>jCC 3 rfl ?_
 have A0:validCfg c=0:=e0;have M0:=validCfg_zero A0
 refine gCO d0 3 [0] rfl<|sMake (kl:= .i64) (kc:= .i64) (enc:=encRk) (sz:=5) (nb:=40) d0 ⟨0,0,0,0,0⟩ (c.workers).toNat c.workers (om:c.workers=(((c.workers).toNat:Nat):Int)) underlying150 (i:=Tryz.t208) kr fR fun a0 f0 _ p0 q0=>pu2<|sBx q0 [.slice (At a0 0) ((c.workers).toNat) ((c.workers).toNat), .slice ao no ko,nS,nS] fun b0 _ r0=>jOC 10 rfl ?_
 have s0:Sat W _ (([(b0, .cells #[.slice (At a0 0) ((c.workers).toNat) ((c.workers).toNat), .slice ao no ko,nS,nS] 154 (0,0))]++(f0++(([]:Chunk)++(([]:Chunk)++([]:List Chunk).flatten))))::[(c0, .cells (encCfg c).toArray 24 (0,0))]::H::F):=Sat.perm (show Sat W _ ([(b0, .cells #[.slice (At a0 0) ((c.workers).toNat) ((c.workers).toNat), .slice ao no ko,nS,nS] 154 (0,0))]::f0::[(c0, .cells (encCfg c).toArray 24 (0,0))]::H::F) from r0) (by simp)
 have H0:(startM c).ws.map rkOf=(List.replicate (c.workers).toNat ⟨0,0,0,0,0⟩):=by simp only [startM,List.map_replicate];rfl
 have E0:=p0;rw [<-H0] at E0
 refine loopF [2,8] (γ:=Nat×MS×Chunk) (fun ⟨i,m,M⟩ R=>⟨[(9,I (i:Int))],M::R,nl-i,i<=nl/\RsM b0 a0 0 H o (absR m) M/\MW m (i:Int)/\MI o m/\m.ws.length=c.workers.toNat/\checkM o c l=runM o m (l.drop i) i⟩) (0,(startM c),([(b0, .cells #[.slice (At a0 0) ((c.workers).toNat) ((c.workers).toNat), .slice ao no ko,nS,nS] 154 (0,0))]++(f0++(([]:Chunk)++(([]:Chunk)++([]:List Chunk).flatten))))) ⟨s0,om,⟨_,none,none,_,_,_,_,0,0,0,0,[],_,[],[],[],rfl,E0,OwnT.nil fR,OwnT.nil fR,Obs.nil _,rfl,ho,do_⟩,(startM_ok c),(MI.new o c),(by simp [startM]),(by unfold checkM;rw [if_pos A0];rfl)⟩ ?_
 rintro ⟨i,m,M⟩ ρ _ ⟨l0,hi,hM,B0,G0,L0,C0⟩
 have D0:1<=m.ws.length:=by omega
 refine jCC 9 rfl<|CD ((i:Int)<(nl:Int)) (fun t0=>jCR 14 rfl<|retT [I (nl:Int), .bool true]<|(by have u0:=(l0.drops [0,0]);obtain rfl:i=nl:=(by omega);have F0:checkM o c l=((i:Int),true):=C0.trans (by rw [List.drop_of_length_le om];rfl);rw [F0];exact ⟨rfl,u0⟩)) fun t0=>jCC 5 rfl ?_
 obtain ⟨v0,j2,k2,g0,w0,x0⟩:=RdT.eN hl i
 refine drawF l0 [9] (fp 4 (w0.up 2 rfl)<|fn) [0,1,2,3,5,6,7,8,4,9,10] fun _ y0=>wV 3<|wI x0<|wV 2<|wAdd (i:Int) 1 ?_
 have z0:=hl.part (lo:=(((i:Int)+1)).toNat) (hi:=nl) om om
 refine wY (.slice (partAddr al kl ((((i:Int)+1)).toNat) 7) (nl-((((i:Int)+1)).toNat)) (kl-((((i:Int)+1)).toNat))) rfl (fun w _=>Y_sl (a:=al) (len:=nl) (cap:=kl) (some ((i:Int)+1)) none ((((i:Int)+1)).toNat) nl runUnderlying26 sizeOf63 ⟨om,om⟩ rfl om om)<|wG 0 7<|wO rfl ?_
 have a1:=(y0.picks [2,1])
 have b1:((l.drop ((((i:Int)+1)).toNat)).take (nl-((((i:Int)+1)).toNat)))=l.drop (i+1):=by rw [List.take_of_length_le (by rw [List.length_drop];omega)];congr 1<;>omega
 have I0:=z0;rw [b1] at I0
 obtain ⟨c1,d1,e1,f1,g1,h1,i1,j1,k1,l1,m1,l2,n1,o1,q1,r1,rfl,s1,t1,u1,v1,w1,x1,y1⟩:=hM
 have z1:Sat W _ ([(b0, .cells #[.slice (At a0 0) h1 i1, .slice c1 f1 g1, .slice d1 j1 k1, .slice e1 l1 m1] 154 (0,0))]::n1::o1::q1::r1.flatten::H::[(c0, .cells (encCfg c).toArray 24 (0,0))]::F):=Sat.perm a1 (by simp)
 refine cZ (rx_event s1 t1 u1 v1 w1 (bwf_of B0) x1 y1 v0 I0 om (show (m.jobs.map (·.B)).length<=1000000 by rw [List.length_map];have h9:=B0.l;omega) (show 1<=(m.ws.map rkOf).length by rw [List.length_map];exact D0) (wsx_of B0 G0) z1) ?_
 rintro _ _ (⟨h0,rfl,m0,i0⟩|⟨_,m0,h0,rfl,a2,i0⟩)
 ·exact nA<|wV 1<|wN<|jXR 15 rfl<|retT [I (i:Int), .bool false]<|(by have b2:=(i0.drops [0,1]);have F0:checkM o c l=((i:Int),false):=C0.trans (run_no g0 (ev_none B0 G0 D0 h0));rw [F0];exact ⟨rfl,b2⟩)
 obtain ⟨c2,j0,rfl⟩:=ev_some B0 G0 D0 h0
 exact nA<|wV 1<|wN<|jXO 7 rfl<|sAdd (i:Int) 1<|jOI 2 rfl<|(by have d2:=(i0.picks [2,1]);have n0:=event_ok B0 om j0;exact ⟨(i+1,c2,m0),od,alB,d2,om,a2,n0.1,(G0.event B0 j0),(n0.2.trans L0),(C0.trans (run_yes g0 j0))⟩)
theorem rx_count (al:Option Addr) (nl kl:Nat) (l:List Evt) (hl:RdT encEvt 7 [H] al nl kl l) (hlb:l.length<=100000) (hS:Sat W w (H::F)):
  Ro prog 39 #[.slice al nl kl] (.agg #[I ((countE l).starts),I ((countE l).commits),I ((countE l).drops),I ((countE l).crashes),I ((countE l).steals),I ((countE l).helps),I ((countE l).spills),I ((countE l).queued),I ((countE l).held),I ((countE l).cells)]) W w (H::F):=by
 have B0:=hl.ll
 refine callsK 59 func39 rfl<|jCO 2 rfl<|sAlloc hS zeroValue67 fun _ _ g0=>jOO 5 rfl<|sAlloc g0 zeroValue67 fun h0 _ i0=>sTk i0 0 rfl [I 0,I 0,I 0,I 0,I 0,I 0,I 0,I 0,I 0,I 0] fun _ j0=>jOC 9 rfl<|loopF [0,2,3] (γ:=Nat×Stt) (fun ⟨i,s⟩ R=>⟨[(4,I (i:Int))],[(h0, .cells (encStt s).toArray 67 (0,0))]::R,nl-i,i<=nl/\s=countE (l.take i)/\CntOk s i⟩) (0,⟨0,0,0,0,0,0,0,0,0,0⟩) ⟨j0,om,rfl,(by unfold CntOk;simp)⟩ ?_
 rintro ⟨i,s⟩ ρ _ ⟨a0,hi,hs,C0⟩
 unfold CntOk at C0
 refine jCC 9 rfl<|CD ((i:Int)<(nl:Int)) (fun k0=>gCO a0 8 [1000] rfl<|sTk a0 1 rfl (encStt s) fun _ d0=>jOR 3 rfl<|retN (vs:=[.agg (encStt s).toArray]) rfl (.cons (.cell _ _ _ _ kr (lvA d0 1 0 (encStt s) (isAgg67 _) (sizeOf67 _) rfl rfl rfl)) .nil)<|(by have l0:=(d0.drops [0,0]);rw [List.take_of_length_le om] at hs;subst hs;exact ⟨rfl,l0⟩)) fun k0=>jCO 8 rfl<|sIN hl i fun c0 _ _ b0 m0=>pu1<|sMp a0 (m0.up 2 rfl) 0 (I c0.kind)<|jOC 10 rfl<|cE c0.kind 3 (fun e0=>jCC 2 rfl<|cT _ (beq_iff_eq.2 e0)<|gCO a0 3 [0] rfl<|sAdd s.starts 1<|pu1<|tWk a0 0 rfl 0 (I (s.starts+1)) fun _ n0=>jOO 6 rfl<|sAdd (i:Int) 1<|jOI 2 rfl<|(by have A0:countE (l.take (i+1))=(⟨(s.starts+1),s.commits,s.drops,s.crashes,s.steals,s.helps,s.spills,s.queued,s.held,s.cells⟩:Stt):=(by rw [count_take b0,<-hs];unfold count1;rw [if_pos om]);exact ⟨(i+1,(⟨(s.starts+1),s.commits,s.drops,s.crashes,s.steals,s.helps,s.spills,s.queued,s.held,s.cells⟩:Stt)),od,alB,n0,om,A0.symm,(by rw [<-A0];exact count_ok)⟩)) fun e0=>jCC 5 rfl<|cE c0.kind 4 (fun o0=>gCO a0 3 [0] rfl<|sAdd s.starts 1<|pu1<|tWk a0 0 rfl 0 (I (s.starts+1)) fun _ p0=>jOO 6 rfl<|sAdd (i:Int) 1<|jOI 2 rfl<|(by have A0:countE (l.take (i+1))=(⟨(s.starts+1),s.commits,s.drops,s.crashes,s.steals,s.helps,s.spills,s.queued,s.held,s.cells⟩:Stt):=(by rw [count_take b0,<-hs];unfold count1;rw [if_pos om]);exact ⟨(i+1,(⟨(s.starts+1),s.commits,s.drops,s.crashes,s.steals,s.helps,s.spills,s.queued,s.held,s.cells⟩:Stt)),od,alB,p0,om,A0.symm,(by rw [<-A0];exact count_ok)⟩)) fun o0=>?_
 refine jCC 6 rfl<|cE c0.kind 5 (fun q0=>gCO a0 4 [0] rfl<|sAdd s.starts 1<|pu1<|tWk a0 0 rfl 0 (I (s.starts+1)) fun _ f0=>gOO f0 5 [0] rfl<|sAdd s.steals 1<|pu1<|tWk f0 0 rfl 4 (I (s.steals+1)) fun _ r0=>jOO 6 rfl<|sAdd (i:Int) 1<|jOI 2 rfl<|(by have A0:countE (l.take (i+1))=(⟨(s.starts+1),s.commits,s.drops,s.crashes,(s.steals+1),s.helps,s.spills,s.queued,s.held,s.cells⟩:Stt):=(by rw [count_take b0,<-hs];unfold count1;rw [if_neg om,if_pos om]);exact ⟨(i+1,(⟨(s.starts+1),s.commits,s.drops,s.crashes,(s.steals+1),s.helps,s.spills,s.queued,s.held,s.cells⟩:Stt)),od,alB,r0,om,A0.symm,(by rw [<-A0];exact count_ok)⟩)) fun q0=>jCC 6 rfl<|cE c0.kind 8 (fun s0=>gCO a0 3 [0] rfl<|sAdd s.commits 1<|pu1<|tWk a0 0 rfl 1 (I (s.commits+1)) fun _ t0=>jOO 6 rfl<|sAdd (i:Int) 1<|jOI 2 rfl<|(by have A0:countE (l.take (i+1))=(⟨s.starts,(s.commits+1),s.drops,s.crashes,s.steals,s.helps,s.spills,s.queued,s.held,s.cells⟩:Stt):=(by rw [count_take b0,<-hs];unfold count1;rw [if_neg om,if_neg om,if_pos om]);exact ⟨(i+1,(⟨s.starts,(s.commits+1),s.drops,s.crashes,s.steals,s.helps,s.spills,s.queued,s.held,s.cells⟩:Stt)),od,alB,t0,om,A0.symm,(by rw [<-A0];exact count_ok)⟩)) fun s0=>?_
 refine jCC 6 rfl<|cE c0.kind 9 (fun u0=>gCO a0 3 [0] rfl<|sAdd s.drops 1<|pu1<|tWk a0 0 rfl 2 (I (s.drops+1)) fun _ v0=>jOO 6 rfl<|sAdd (i:Int) 1<|jOI 2 rfl<|(by have A0:countE (l.take (i+1))=(⟨s.starts,s.commits,(s.drops+1),s.crashes,s.steals,s.helps,s.spills,s.queued,s.held,s.cells⟩:Stt):=(by rw [count_take b0,<-hs];unfold count1;rw [if_neg om,if_neg om,if_neg om,if_pos om]);exact ⟨(i+1,(⟨s.starts,s.commits,(s.drops+1),s.crashes,s.steals,s.helps,s.spills,s.queued,s.held,s.cells⟩:Stt)),od,alB,v0,om,A0.symm,(by rw [<-A0];exact count_ok)⟩)) fun u0=>jCC 6 rfl<|cE c0.kind 10 (fun w0=>gCO a0 3 [0] rfl<|sAdd s.crashes 1<|pu1<|tWk a0 0 rfl 3 (I (s.crashes+1)) fun _ x0=>jOO 6 rfl<|sAdd (i:Int) 1<|jOI 2 rfl<|(by have A0:countE (l.take (i+1))=(⟨s.starts,s.commits,s.drops,(s.crashes+1),s.steals,s.helps,s.spills,s.queued,s.held,s.cells⟩:Stt):=(by rw [count_take b0,<-hs];unfold count1;rw [if_neg om,if_neg om,if_neg om,if_neg om,if_pos om]);exact ⟨(i+1,(⟨s.starts,s.commits,s.drops,(s.crashes+1),s.steals,s.helps,s.spills,s.queued,s.held,s.cells⟩:Stt)),od,alB,x0,om,A0.symm,(by rw [<-A0];exact count_ok)⟩)) fun w0=>jCC 6 rfl<|CE c0.kind 12 (fun y0=>jCO 6 rfl<|sAdd (i:Int) 1<|jOI 2 rfl<|(by have A0:countE (l.take (i+1))=s:=(by rw [count_take b0,<-hs];unfold count1;rw [if_neg om,if_neg om,if_neg om,if_neg om,if_neg om,if_neg om]);exact ⟨(i+1,s),od,alB,a0,om,A0.symm,(by rw [<-A0];exact count_ok)⟩)) fun y0=>gCO a0 3 [0] rfl<|sAdd s.helps 1<|pu1<|tWk a0 0 rfl 5 (I (s.helps+1)) fun _ z0=>jOO 6 rfl<|sAdd (i:Int) 1<|jOI 2 rfl ?_
 have A0:countE (l.take (i+1))=(⟨s.starts,s.commits,s.drops,s.crashes,s.steals,(s.helps+1),s.spills,s.queued,s.held,s.cells⟩:Stt):=by rw [count_take b0,<-hs];unfold count1;rw [if_neg om,if_neg om,if_neg om,if_neg om,if_neg om,if_pos om]
 exact ⟨(i+1,(⟨s.starts,s.commits,s.drops,s.crashes,s.steals,(s.helps+1),s.spills,s.queued,s.held,s.cells⟩:Stt)),od,alB,z0,om,A0.symm,(by rw [<-A0];exact count_ok)⟩
end Go.Proofs.YtkadmghedmodbaaGreat
