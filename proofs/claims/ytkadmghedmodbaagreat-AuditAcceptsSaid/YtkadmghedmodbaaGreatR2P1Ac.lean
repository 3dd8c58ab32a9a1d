import Derived.Test.YtkadmghedmodbaaGreatR2P1Au4
set_option linter.all false
namespace Go.Proofs.YtkadmghedmodbaaGreat
open Go Go.E Go.Proofs.Tryz
set_option linter.all false
set_option maxRecDepth 100000
set_option maxHeartbeats 2000000
variable {W w:World} {H:Chunk} {F:List Chunk}
def six (s:Stt):List Int:=[s.starts,s.commits,s.drops,s.crashes,s.steals,s.helps]
theorem six_count {s t:Stt} {e:Evt} (h:six s=six t):six (count1 s e)=six (count1 t e):=by
  simp only [six,List.cons.injEq,and_true] at h⊢
  obtain ⟨h1,h2,h3,h4,h5,h6⟩:=h
  unfold count1
  repeat' split
  all_goals (refine ⟨?_,?_,?_,?_,?_,?_⟩<;>(try dsimp only)<;>omega)
theorem six_fold:∀(l:List Evt) {s t:Stt},six s=six t->six (l.foldl count1 s)=six (l.foldl count1 t)
  |[],_,_,h=>h
  |_::l,_,_,h=>six_fold l (six_count h)
theorem spill_six {x job band:Int}:∀(l:List Int) {F:FS},six (spillF F x job band l).st=six F.st
  |[],_=>rfl
  |t::l,F=>by
    have h:six (spill1 F x ⟨job,t⟩ band).st=six F.st:=by unfold spill1;split<;>rfl
    exact (spill_six l).trans h
theorem micro_six {F:FS} {x:Int}:six (microF F x).1.st=six (count1 F.st (microF F x).2):=by
  unfold microF
  simp only
  split
  · rfl
  · split
    · rfl
    · split<;>exact (spill_six _).trans rfl
theorem acq_six {F F':FS} {x c:Int} {ev:Evt} (he:acqF F x c=some (F',ev)):six F'.st=six (count1 F.st ev):=by
  unfold acqF at he
  split at he
  · obtain ⟨rfl,rfl⟩:=Prod.mk.inj (Option.some.inj he);rfl
  · split at he
    · obtain ⟨rfl,rfl⟩:=Prod.mk.inj (Option.some.inj he);rfl
    · unfold stealF at he
      split at he
      · cases he
      · split at he
        · cases he
        · obtain ⟨rfl,rfl⟩:=Prod.mk.inj (Option.some.inj he);rfl
theorem step_six {F:FS} {x c:Int}:six (stepF F x c).1.st=six ((stepF F x c).2.1.foldl count1 F.st):=by
  unfold stepF
  split
  · rfl
  · split
    · rfl
    · split
      · split
        · exact micro_six
        · rfl
      · unfold restF
        split
        · rename_i q hq;exact acq_six (ev:=q.2) hq
        · split
          · exact micro_six (F:=helpF F)
          · rfl
theorem crash_six {F:FS} {x:Int}:six (crashF F x).1.st=six ((crashF F x).2.1.foldl count1 F.st):=by
  unfold crashF
  split
  · rfl
  · split
    · rfl
    · exact (by have h:(retJ F (wAt F x)).st=F.st:=(by unfold retJ;split<;>rfl);show six {(retJ F (wAt F x)).st with crashes:=(retJ F (wAt F x)).st.crashes+1}=_;rw [h];rfl)
theorem restart_six {F:FS} {x:Int}:six (restartF F x).1.st=six ((restartF F x).2.1.foldl count1 F.st):=by
  unfold restartF
  split
  · rfl
  · split<;>rfl
theorem cancel_six {F:FS} {k:Int}:six (cancelF F k).1.st=six ((cancelF F k).2.1.foldl count1 F.st):=by
  unfold cancelF
  split
  · rfl
  · split<;>rfl
theorem countE_app {a b:List Evt}:countE (a++b)=b.foldl count1 (countE a):=by unfold countE;rw [List.foldl_append]
theorem tr_six {c:Cfg} {K:Nat} {js:List (List Task)} {es:List Evt} {F:FS} (h:Tr c K js es F):six F.st=six (countE es):=by
  induction h with
  |nil=>rfl
  |add l bd _ _ _ _ _ _ ih=>rw [countE_app];exact ih
  |cancel k _ ih=>rw [countE_app];exact cancel_six.trans (six_fold _ ih)
  |crash x _ ih=>rw [countE_app];exact crash_six.trans (six_fold _ ih)
  |restart x _ ih=>rw [countE_app];exact restart_six.trans (six_fold _ ih)
  |step x y _ ih=>rw [countE_app];exact step_six.trans (six_fold _ ih)
def rest4 (s:Stt):Prop:=s.spills=0/\s.queued=0/\s.held=0/\s.cells=0
theorem count1_rest {s:Stt} {e:Evt} (h:rest4 s):rest4 (count1 s e):=by
  unfold count1 rest4 at*
  repeat' split
  all_goals exact h
theorem count_rest:∀(l:List Evt) {s:Stt},rest4 s->rest4 (l.foldl count1 s)
  |[],_,h=>h
  |_::l,_,h=>count_rest l (count1_rest h)
theorem run_all {off:List TL}:∀{l:List Evt} {m m':MS} {i:Nat},stepAll off m l=some m'->runM off m l i=(((i+l.length:Nat):Int),true)
  |[],_,_,_,_=>by simp [runM]
  |e::l,m,m',i,h=>by
    simp only [stepAll] at h
    rw [runM]
    cases he:eventM off m e l with
    |none=>rw [he] at h;cases h
    |some m1=>rw [he] at h;simp only;rw [run_all h,List.length_cons];congr 2;omega
theorem rec_all {c:Cfg} {off:List TL} {K:Nat} {es:List Evt} {F:FS} (hv:validCfg c=0) (hc:c.tasks=512) (h:Tr c K (off.map (·.l.l)) es F) (hK:K<=3000):checkM off c es=((es.length:Int),true):=by
  obtain ⟨m,g1,_⟩:=tr_sim (off:=off) hv hc h (rest:=[]) hK (by simp)
  unfold checkM;rw [if_pos hv,run_all g1,Nat.zero_add]
theorem count_fin {c:Cfg} {K:Nat} {js:List (List Task)} {es:List Evt} {F:FS} (h:Tr c K js es F):countE es=⟨(statsF F).starts,(statsF F).commits,(statsF F).drops,(statsF F).crashes,(statsF F).steals,(statsF F).helps,0,0,0,0⟩:=by
 have h1:=tr_six h
 have h2:=count_rest es (s:=⟨0,0,0,0,0,0,0,0,0,0⟩) ⟨rfl,rfl,rfl,rfl⟩
 change rest4 (countE es) at h2
 cases hs:countE es with
 |mk a b c' d e f g h' i j=>
  rw [hs] at h1 h2
  simp only [six,List.cons.injEq,and_true] at h1
  obtain ⟨e1,e2,e3,e4,e5,e6⟩:=h1
  obtain ⟨e7,e8,e9,a0⟩:=h2
  simp only at e7 e8 e9 a0
  subst e7 e8 e9 a0
  simp only [statsF,e1,e2,e3,e4,e5,e6]
theorem eqve67 (w:World) (a0 a1 a2 a3 a4 a5 a6 a7 a8 a9 b0 b1 b2 b3 b4 b5 b6 b7 b8 b9:Int):∀x y,((do eqGuard .eql 67 x y (.agg #[I a0,I a1,I a2,I a3,I a4,I a5,I a6,I a7,I a8,I a9]) (.agg #[I b0,I b1,I b2,I b3,I b4,I b5,I b6,I b7,I b8,I b9]);binOp .eql 67 (.agg #[I a0,I a1,I a2,I a3,I a4,I a5,I a6,I a7,I a8,I a9]) (.agg #[I b0,I b1,I b2,I b3,I b4,I b5,I b6,I b7,I b8,I b9])):Sem Value).run prog w= .ok (.bool ((a0==b0)&&(a1==b1)&&(a2==b2)&&(a3==b3)&&(a4==b4)&&(a5==b5)&&(a6==b6)&&(a7==b7)&&(a8==b8)&&(a9==b9))) w:=by
 intro x y
 simp [go_sem,run_eqGuard_agg,run_eql_struct,run_equalIn_agg]
 by_cases h0:a0=b0<;>by_cases h1:a1=b1<;>by_cases h2:a2=b2<;>by_cases h3:a3=b3<;>by_cases h4:a4=b4<;>by_cases h5:a5=b5<;>by_cases h6:a6=b6<;>by_cases h7:a7=b7<;>by_cases h8:a8=b8<;>by_cases h9:a9=b9<;>simp [*]
theorem l31_accepts (W w:World) (H:Chunk) (F:List Chunk) (t:Option Addr) (nt kt:Nat) (xt:List Int) (ht:RdT Go.E.encI 1 [H] t nt kt xt) (hS:Sat W w (H::F)):
  Calls prog 5 #[.slice t nt kt] w fun e w'=>e= .returned (.bool true)/\Sat W w' (H::F):=by
 have hlt:=ht.le
 refine callsK 146 func5 rfl<|jCO 8 rfl<|cX call6 (tape_new t nt kt hS) ?_
 rintro _ _ ⟨f0,rfl,d3⟩
 have ea:=ht.le
 refine jOO 6 rfl<|cX call12 (tg_config (RdT.flat (ht.up 0 (by rfl))) om d3.flat1) ?_
 rintro _ _ ⟨i0,rfl,e3,f3,r0,_,g3⟩
 refine sAlloc (Sat.unflat1 g3) zeroValue24 fun g0 _ i3=>sTl i3 0 (encCfg i0) sizeOf24 fun _ j3=>jOO 5 rfl ?_
 refine tW j3 0 3 (I 4096) sizeOf3 fun _ k3=>pu1<|tW k3 0 5 (I 512) sizeOf3 fun l3 m3=>nilO ?_
 obtain ⟨c,hc⟩:∃z:Cfg,z=(⟨i0.workers,i0.tileW,i0.tileH,4096,i0.deque,512,i0.cells,i0.jobs⟩:Cfg):=⟨_,rfl⟩
 have t1:Sat W l3 ([(g0, .cells (encCfg c).toArray 24 (0,0))]::[(f0, .cells #[.slice t nt kt,I r0] 72 (0,0))]::H::F):=by subst hc;exact m3
 have hv:validCfg c=0:=by have h:=validCfg_zero e3;subst hc;unfold validCfg;rw [if_pos (by dsimp only;omega)]
 have hvc0:=validCfg_zero hv;have hw4:c.workers<=4:=(by subst hc;exact f3);have hc4:c.arena=4096:=(by subst hc;rfl);have hc5:c.tasks=512:=(by subst hc;rfl)
 refine gXO t1 4 [800] rfl ?_
 have u1:validCfg c=0:=hv
 refine cX call14 (pf_new c u1 t1) ?_
 rintro _ _ ⟨v1,f1,rfl,n3,o3⟩
 have q3:=FJ.new u1
 refine jOC 34 rfl ?_
 have r3:=(o3.picks [1,2])
 have s3:Sat W _ ([(f0, .cells #[.slice t nt kt,I r0] 72 (0,0))]::[(g0, .cells (encCfg c).toArray 24 (0,0))]::f1::([]:Chunk)::([]:Chunk)::([]:Chunk)::H::F):=Sat.perm (show Sat W _ ([(f0, .cells #[.slice t nt kt,I r0] 72 (0,0))]::[(g0, .cells (encCfg c).toArray 24 (0,0))]::f1::H::F) from r3) (by simp)
 refine loopF [3,4,5] (γ:=Nat×Int×Nat×FS×Chunk×(Option Addr)×Nat×Nat×(List TL)×Chunk×Chunk×(Option Addr)×Nat×Nat×(List Evt)×Chunk) (fun ⟨i,it,K,F0,M0,aj,nj,kj,js,cj,Gj,ao,no,ko,es,co⟩ R=>⟨[(7, .slice aj nj kj),(8, .slice ao no ko),(9,I (i:Int))],[(f0, .cells #[.slice t nt kt,I it] 72 (0,0))]::[(g0, .cells (encCfg c).toArray 24 (0,0))]::M0::cj::Gj::co::R,60-i,i<=60/\(0<=it/\it<=nt)/\FarmP v1 F0 M0/\FJ F0 (K:Int) nj/\OwnT encTL 45 1 aj nj kj js cj/\(∀z∈js,TL.Ok [Gj] z)/\OwnT encEvt 63 7 ao no ko es co/\Tr c K (js.map (·.l.l)) es F0/\K<=i/\es.length<=4*i⟩) (0,r0,0,(newF c),f1,none,0,0,[],[],[],none,0,0,[],[]) ⟨s3,om,om,n3,(q3.mono om om om),OwnT.nil fR,(fun z hz=>by cases hz),OwnT.nil fR,Tr.nil,om,by simp⟩ ?_
 rintro ⟨i,it,K,F0,M0,aj,nj,kj,js,cj,Gj,ao,no,ko,es,co⟩ ρ _ ⟨g1,hi,hit,hFR,hFJ,hOj,hDj,hOe,hTr,hKi,hel⟩
 have hjl_:=hOj.len;have hjk_:=hOj.le;have hol_:=hOe.len;have hok_:=hOe.le;have hI:=hTr.inv hv om;rw [List.length_map,hjl_] at hI;have hnj:=hI.n4;have hws:=hI.ws
 refine jCO 6 rfl<|sD 32 ((i:Int)<60) (fun t3=>?_) (fun t3=>?_)
 rotate_left
 ·refine jOC 12 rfl ?_
  have hlx_:=hOj.len;have hly_:=hOe.len;have hes_:=tr_es hTr;have hrec_:=rec_all hv hc5 hTr om;have hcnt_:=count_fin hTr
  refine gCO g1 4 [801] rfl<|cR call35 (au_check c aj nj kj js ao no ko es (RdT.flat (hOj.rdAt 3 (by rfl))) (fun z hz=>(hDj z hz).of_mem (mem_flat1 4 (by rfl))) (RdT.flat (hOe.rdAt 5 (by rfl))) (fun z hz=>by have:=tr_len hTr _ (List.mem_map.2 ⟨z,hz,rfl⟩);omega) om g1.flat) fun _ u3=>?_
  rw [hrec_,hly_]
  refine jOO 10 rfl ?_
  have v3:=(u3.pick 2 rfl)
  refine cX call36 (pf_stats hFR hFJ.i hFJ.h v3.flat1) ?_
  rintro _ _ ⟨rfl,w3⟩
  have x3:=w3.unflat1
  obtain ⟨a0,w1⟩:∃z,z=statsF F0:=⟨_,rfl⟩;rw [<-w1]
  rw [<-w1] at hcnt_
  refine pu1<|cR call37 (au_count ao no ko es (RdT.flat (hOe.rdAt 5 (by rfl))) (by first|omega|decide|(simp only [List.length_append,List.length_take,List.length_drop,List.length_nil];omega)) x3.flat) fun _ y3=>?_
  rw [hcnt_]
  refine sAlloc y3 zeroValue67 fun _ _ z3=>sAlloc z3 zeroValue67 fun _ _ a4=>sTl a4 1 (encStt a0) sizeOf67 fun _ b4=>sTl b4 0 (encStt {a0 with spills:=0,queued:=0,held:=0,cells:=0}) sizeOf67 fun _ x1=>jOO 12 rfl ?_
  have c4:((no:Int):Int)=(no:Int):=rfl
  refine sFix 126 _ true (beq_iff_eq.2 c4)<|gOO x1 14 [1000,1,1,1,1,1,1] rfl<|gY<|stepY (.bool (((a0.starts:Int)==a0.starts)&&((a0.commits:Int)==a0.commits)&&((a0.drops:Int)==a0.drops)&&((a0.crashes:Int)==a0.crashes)&&((a0.steals:Int)==a0.steals)&&((a0.helps:Int)==a0.helps)&&((0:Int)==0)&&((0:Int)==0)&&((0:Int)==0)&&((0:Int)==0))) rfl rfl (Y_eqS rfl kr kr (eqve67 _ a0.starts a0.commits a0.drops a0.crashes a0.steals a0.helps 0 0 0 0 a0.starts a0.commits a0.drops a0.crashes a0.steals a0.helps 0 0 0 0))<|pu2 ?_
  have d4:(a0.starts:Int)=a0.starts/\(a0.commits:Int)=a0.commits/\(a0.drops:Int)=a0.drops/\(a0.crashes:Int)=a0.crashes/\(a0.steals:Int)=a0.steals/\(a0.helps:Int)=a0.helps/\(0:Int)=0/\(0:Int)=0/\(0:Int)=0/\(0:Int)=0:=⟨rfl,rfl,rfl,rfl,rfl,rfl,rfl,rfl,rfl,rfl⟩
  refine sFix 143 _ true (show (((a0.starts:Int)==a0.starts)&&((a0.commits:Int)==a0.commits)&&((a0.drops:Int)==a0.drops)&&((a0.crashes:Int)==a0.crashes)&&((a0.steals:Int)==a0.steals)&&((a0.helps:Int)==a0.helps)&&((0:Int)==0)&&((0:Int)==0)&&((0:Int)==0)&&((0:Int)==0))=true from by simpa [and_assoc] using d4)<|gY<|cX call11 (l31_sane x1) ?_
  rintro _ _ ⟨rfl,e4⟩
  exact jOR 5 rfl<|retT [.bool true]<|⟨rfl,(e4.drops [0,0,0,0,0,0,0,0])⟩
 refine pu1<|gY<|cX call16 (tape_left (RdT.flat (ht.up 5 (by rfl))) om g1.flat1) ?_
 rintro _ _ ⟨g4,rfl,h4⟩
 have s0:=h4.unflat1
 refine jOC 3 rfl ?_
 cases g4
 ·refine jCC 7 rfl ?_
  have hlx_:=hOj.len;have hly_:=hOe.len;have hes_:=tr_es hTr;have hrec_:=rec_all hv hc5 hTr om;have hcnt_:=count_fin hTr
  refine gCO s0 4 [801] rfl<|cR call35 (au_check c aj nj kj js ao no ko es (RdT.flat (hOj.rdAt 3 (by rfl))) (fun z hz=>(hDj z hz).of_mem (mem_flat1 4 (by rfl))) (RdT.flat (hOe.rdAt 5 (by rfl))) (fun z hz=>by have:=tr_len hTr _ (List.mem_map.2 ⟨z,hz,rfl⟩);omega) om s0.flat) fun _ i4=>?_
  rw [hrec_,hly_]
  refine jOO 10 rfl ?_
  have j4:=(i4.pick 2 rfl)
  refine cX call36 (pf_stats hFR hFJ.i hFJ.h j4.flat1) ?_
  rintro _ _ ⟨rfl,k4⟩
  have l4:=k4.unflat1
  obtain ⟨b0,y1⟩:∃z,z=statsF F0:=⟨_,rfl⟩;rw [<-y1]
  rw [<-y1] at hcnt_
  refine pu1<|cR call37 (au_count ao no ko es (RdT.flat (hOe.rdAt 5 (by rfl))) (by first|omega|decide|(simp only [List.length_append,List.length_take,List.length_drop,List.length_nil];omega)) l4.flat) fun _ m4=>?_
  rw [hcnt_]
  refine sAlloc m4 zeroValue67 fun _ _ o4=>sAlloc o4 zeroValue67 fun _ _ q4=>sTl q4 1 (encStt b0) sizeOf67 fun _ r4=>sTl r4 0 (encStt {b0 with spills:=0,queued:=0,held:=0,cells:=0}) sizeOf67 fun _ z1=>jOO 12 rfl ?_
  have s4:((no:Int):Int)=(no:Int):=rfl
  refine sFix 126 _ true (beq_iff_eq.2 s4)<|gOO z1 14 [1000,1,1,1,1,1,1] rfl<|gY<|stepY (.bool (((b0.starts:Int)==b0.starts)&&((b0.commits:Int)==b0.commits)&&((b0.drops:Int)==b0.drops)&&((b0.crashes:Int)==b0.crashes)&&((b0.steals:Int)==b0.steals)&&((b0.helps:Int)==b0.helps)&&((0:Int)==0)&&((0:Int)==0)&&((0:Int)==0)&&((0:Int)==0))) rfl rfl (Y_eqS rfl kr kr (eqve67 _ b0.starts b0.commits b0.drops b0.crashes b0.steals b0.helps 0 0 0 0 b0.starts b0.commits b0.drops b0.crashes b0.steals b0.helps 0 0 0 0))<|pu2 ?_
  have t4:(b0.starts:Int)=b0.starts/\(b0.commits:Int)=b0.commits/\(b0.drops:Int)=b0.drops/\(b0.crashes:Int)=b0.crashes/\(b0.steals:Int)=b0.steals/\(b0.helps:Int)=b0.helps/\(0:Int)=0/\(0:Int)=0/\(0:Int)=0/\(0:Int)=0:=⟨rfl,rfl,rfl,rfl,rfl,rfl,rfl,rfl,rfl,rfl⟩
  refine sFix 143 _ true (show (((b0.starts:Int)==b0.starts)&&((b0.commits:Int)==b0.commits)&&((b0.drops:Int)==b0.drops)&&((b0.crashes:Int)==b0.crashes)&&((b0.steals:Int)==b0.steals)&&((b0.helps:Int)==b0.helps)&&((0:Int)==0)&&((0:Int)==0)&&((0:Int)==0)&&((0:Int)==0))=true from by simpa [and_assoc] using t4)<|gY<|cX call11 (l31_sane z1) ?_
  rintro _ _ ⟨rfl,u4⟩
  exact jOR 5 rfl<|retT [.bool true]<|⟨rfl,(u4.drops [0,0,0,0,0,0,0,0])⟩
 refine gCO s0 15 [1] rfl<|cX call13 (tape_next (RdT.flat (ht.up 5 (by rfl))) om s0.flat1 c.workers om) ?_
 rintro _ _ ⟨c0,rfl,_,_,_,w4⟩
 have a2:=w4.unflat1
 refine jOC 3 rfl<|cutF a2 6 [3,4,5,8,9] (γ:=Int×Nat×FS×Chunk×(Option Addr)×Nat×Nat×(List TL)×Chunk×Chunk×(Option Addr)×Nat×Nat×(List Evt)×Chunk) (fun ⟨it1,K1,F1,M1,aj1,nj1,kj1,js1,cj1,Gj1,al,nl,kl,ls,Gl⟩ R=>⟨[(7, .slice aj1 nj1 kj1),(10, .slice al nl kl)],[(f0, .cells #[.slice t nt kt,I it1] 72 (0,0))]::[(g0, .cells (encCfg c).toArray 24 (0,0))]::M1::cj1::Gj1::co::Gl::R,0,(0<=it1/\it1<=nt)/\FarmP v1 F1 M1/\FJ F1 (K1:Int) nj1/\OwnT encTL 45 1 aj1 nj1 kj1 js1 cj1/\(∀z∈js1,TL.Ok [Gj1] z)/\OwnT encEvt 63 7 al nl kl ls Gl/\Tr c K1 (js1.map (·.l.l)) (es++ls) F1/\K1<=i+1/\ls.length<=4⟩) ?_ ?_
 rotate_left
 ·rintro ⟨it1,K1,F1,M1,aj1,nj1,kj1,js1,cj1,Gj1,al,nl,kl,ls,Gl⟩ ρ _ ⟨x4,hit1,hR1,hFJ1,hOj1,hDj1,hOl,hTr1,hKi1,hll⟩
  have hlx2_:=hOl.len;have hly2_:=hOl.le
  refine jCO 3 rfl<|sApp (nb:=56) x4 hOe 5 (hOl.rdAt 6 rfl) underlying26 (i:=Tryz.t63) kr fR fun y4 z4 a5 _ b5 c5=>jOO 6 rfl<|sAdd (i:Int) 1<|jOI 2 rfl ?_
  exact ⟨(i+1,it1,K1,F1,M1,aj1,nj1,kj1,js1,cj1,Gj1,y4,(no+nl),z4,(es++ls),a5),od,alB,(c5.dropAt 6 rfl),om,om,hR1,hFJ1,hOj1,hDj1,b5,hTr1,om,by rw [List.length_append];omega⟩
 refine jCO 3 rfl<|cX call13 (tape_next (RdT.flat (ht.up 5 (by rfl))) om a2.flat1 16 om) ?_
 rintro _ _ ⟨j0,rfl,_,m0,_,e5⟩
 have h0:=e5.unflat1
 refine jOC 10 rfl<|cE j0 0 (fun b2=>?_) (fun b2=>?_)
 ·refine jCC 2 rfl<|cT _ (beq_iff_eq.2 b2)<|jCC 7 rfl<|cD ((nj:Int)<4) (fun f5=>?_) (fun f5=>?_)
  rotate_left
  ·refine jCI 2 rfl ?_
   have g5:=Sat.nilc h0
   exact ⟨(m0,K,F0,M0,aj,nj,kj,js,cj,Gj,none,0,0,[],([]:Chunk)),alB,(g5.picks [6,6,6,6,6,6]),om,hFR,(hFJ.mono om om om),hOj,hDj,OwnT.nil fR,(by rw [List.append_nil];exact hTr),om,(by first|omega|(simp<;>omega))⟩
  refine jCO 3 rfl<|cX call17 (tg_tasks (RdT.flat (ht.up 5 (by rfl))) om h0.flat1 5 om) ?_
  rintro _ _ ⟨t0,u0,v0,d0,w0,x0,rfl,y0,c2,i5,d2,_,_,_,j5⟩
  have k5:=j5.unflat3
  have hn_zs_87:=y0.len;have hl_zs_87:=y0.le
  refine jOO 11 rfl<|cX call13 (tape_next (RdT.flat (ht.up 7 (by rfl))) om k5.flat1 4 om) ?_
  rintro _ _ ⟨n0,rfl,_,h1,_,l5⟩
  have m5:=l5.unflat1
  have n5:=(m5.pick 4 rfl)
  obtain ⟨e2,o5,p5⟩:=hI.fresh om
  have f2:validC d0=0:=validC_ok om om i5.2.2
  have hld:=hI.load;have hcf:=hI.cf
  have g2:0<=(nj:Int)/\(nj:Int)<64:=by omega
  have h2:0<=n0/\n0<4:=by omega
  have i2:validC d0=0:=f2
  have j2:∀z∈d0,z.scratch<=F0.cfg.arena:=(fun z hz=>by rw [hcf,hc4];have:=d2 z hz;omega)
  have q5:0<=F0.cfg.tasks/\F0.cfg.tasks<=4096:=by rw [hcf,hc5];omega
  have k2:(d0.length:Int)<=F0.cfg.tasks-loadL F0.jobs:=by rw [hcf,hc5];omega
  have r5:d0.length<=12:=by omega
  have l2:F0.jobs[((nj:Int)).toNat]?=some e2:=o5
  have m2:JS.added e2=false:=p5
  refine cX call19 (pf_add hFR hFJ.i (nj:Int) t0 u0 v0 d0 n0 (RdT.flat (y0.rdAt 1 (by rfl))) (fun z hz=>(c2 z hz).of_mem (mem_flat1 2 (by rfl))) g2 l2 m2 h2 i2 j2 q5 k2 n5.flat1) ?_
  rintro _ _ ⟨i1,rfl,s5,t5⟩
  have u5:=t5.unflat1
  have v5:=hFJ.add g2 l2 m2 h2 i2 j2 k2 r5
  have n2:=Tr.add d0 n0 hTr (by rw [List.length_map];omega) om f2 om d2
  rw [List.length_map,hjl_] at n2
  refine jOO 11 rfl<|sBS u5 #[I 1,I 0,I 0,I (nj:Int),I 0,I 0,I 0] runUnderlying26 sizeOf63 zeroValue63 fun o0 _ w5=>jOO 6 rfl<|sBS w5 #[.slice t0 u0 v0] runUnderlying25 sizeOf45 zeroValue45 fun _ _ x5=>sApp (nb:=24) x5 hOj 7 (RdT.blk (enc:=encTL) (sz:=1) (xs:=[(⟨⟨t0,u0,v0,d0⟩⟩:TL)]) fR 1 0 rfl rfl rfl om) underlying25 (i:=Tryz.t45) kr fR fun y5 z5 j1 _ a6 b6=>jOI 3 rfl ?_
  have c6:=OwnT.blk (enc:=encEvt) (sz:=7) (b:=o0) (c:=#[I 1,I 0,I 0,I (nj:Int),I 0,I 0,I 0]) (E:=63) (xs:=[(⟨1,0,0,(nj:Int),0,0,0⟩:Evt)]) fR 1 rfl rfl rfl om
  have d6:=((b6.picks [9,9,7,7,9,7,9,9]).dropAt 8 rfl)
  have e6:Sat W _ ([(f0, .cells #[.slice t nt kt,I h1] 72 (0,0))]::[(g0, .cells (encCfg c).toArray 24 (0,0))]::i1::j1::(w0++(x0++Gj))::co::[(o0, .cells #[I 1,I 0,I 0,I (nj:Int),I 0,I 0,I 0] 63 (0,0))]::H::F):=Sat.perm (show Sat W _ ([(f0, .cells #[.slice t nt kt,I h1] 72 (0,0))]::[(g0, .cells (encCfg c).toArray 24 (0,0))]::i1::j1::w0::x0::Gj::co::[(o0, .cells #[I 1,I 0,I 0,I (nj:Int),I 0,I 0,I 0] 63 (0,0))]::H::F) from d6) (by simp)
  exact ⟨(h1,K+1,(addF F0 (nj:Int) d0 n0),i1,y5,(nj+1),z5,(js++[(⟨⟨t0,u0,v0,d0⟩⟩:TL)]),j1,(w0++(x0++Gj)),(At o0 0),1,1,[(⟨1,0,0,(nj:Int),0,0,0⟩:Evt)],[(o0, .cells #[I 1,I 0,I 0,I (nj:Int),I 0,I 0,I 0] 63 (0,0))]),alB,e6,om,s5,(v5.mono om om om),a6,(by
    intro z hz
    rcases List.mem_append.1 hz with h|h
    ·exact (hDj z h).of_mem mS
    ·rw [List.mem_singleton.1 h];exact ⟨(y0.rdAt (cs:=[w0,x0,Gj]) 0 rfl).of_mem (fun p hp=>by simp at hp⊢;exact hp),fun y hy=>(c2 y hy).of_mem mS⟩),c6,(by rw [List.map_append];exact n2),om,(by first|omega|(simp<;>omega))⟩
 refine jCC 5 rfl<|cE j0 1 (fun f6=>?_) (fun f6=>?_)
 ·refine jCC 7 rfl<|cD ((nj:Int)<4) (fun g6=>?_) (fun g6=>?_)
  rotate_left
  ·refine jCI 2 rfl ?_
   have h6:=Sat.nilc h0
   exact ⟨(m0,K,F0,M0,aj,nj,kj,js,cj,Gj,none,0,0,[],([]:Chunk)),alB,(h6.picks [6,6,6,6,6,6]),om,hFR,(hFJ.mono om om om),hOj,hDj,OwnT.nil fR,(by rw [List.append_nil];exact hTr),om,(by first|omega|(simp<;>omega))⟩
  refine jCO 3 rfl<|cX call17 (tg_tasks (RdT.flat (ht.up 5 (by rfl))) om h0.flat1 5 om) ?_
  rintro _ _ ⟨z0,a1,b1,e0,c1,d1,rfl,e1,o2,j6,q2,_,_,_,k6⟩
  have l6:=k6.unflat3
  have hn_zs_150:=e1.len;have hl_zs_150:=e1.le
  refine jOO 11 rfl<|cX call13 (tape_next (RdT.flat (ht.up 7 (by rfl))) om l6.flat1 4 om) ?_
  rintro _ _ ⟨p0,rfl,_,k1,_,m6⟩
  have n6:=m6.unflat1
  have o6:=(n6.pick 4 rfl)
  obtain ⟨r2,p6,q6⟩:=hI.fresh om
  have s2:validC e0=0:=validC_ok om om j6.2.2
  have hld:=hI.load;have hcf:=hI.cf
  have t2:0<=(nj:Int)/\(nj:Int)<64:=by omega
  have u2:0<=p0/\p0<4:=by omega
  have v2:validC e0=0:=s2
  have w2:∀z∈e0,z.scratch<=F0.cfg.arena:=(fun z hz=>by rw [hcf,hc4];have:=q2 z hz;omega)
  have r6:0<=F0.cfg.tasks/\F0.cfg.tasks<=4096:=by rw [hcf,hc5];omega
  have x2:(e0.length:Int)<=F0.cfg.tasks-loadL F0.jobs:=by rw [hcf,hc5];omega
  have s6:e0.length<=12:=by omega
  have y2:F0.jobs[((nj:Int)).toNat]?=some r2:=p6
  have z2:JS.added r2=false:=q6
  refine cX call19 (pf_add hFR hFJ.i (nj:Int) z0 a1 b1 e0 p0 (RdT.flat (e1.rdAt 1 (by rfl))) (fun z hz=>(o2 z hz).of_mem (mem_flat1 2 (by rfl))) t2 y2 z2 u2 v2 w2 r6 x2 o6.flat1) ?_
  rintro _ _ ⟨l1,rfl,t6,u6⟩
  have v6:=u6.unflat1
  have w6:=hFJ.add t2 y2 z2 u2 v2 w2 x2 s6
  have a3:=Tr.add e0 p0 hTr (by rw [List.length_map];omega) om s2 om q2
  rw [List.length_map,hjl_] at a3
  refine jOO 11 rfl<|sBS v6 #[I 1,I 0,I 0,I (nj:Int),I 0,I 0,I 0] runUnderlying26 sizeOf63 zeroValue63 fun q0 _ x6=>jOO 6 rfl<|sBS x6 #[.slice z0 a1 b1] runUnderlying25 sizeOf45 zeroValue45 fun _ _ y6=>sApp (nb:=24) y6 hOj 7 (RdT.blk (enc:=encTL) (sz:=1) (xs:=[(⟨⟨z0,a1,b1,e0⟩⟩:TL)]) fR 1 0 rfl rfl rfl om) underlying25 (i:=Tryz.t45) kr fR fun z6 a7 m1 _ b7 c7=>jOI 3 rfl ?_
  have d7:=OwnT.blk (enc:=encEvt) (sz:=7) (b:=q0) (c:=#[I 1,I 0,I 0,I (nj:Int),I 0,I 0,I 0]) (E:=63) (xs:=[(⟨1,0,0,(nj:Int),0,0,0⟩:Evt)]) fR 1 rfl rfl rfl om
  have e7:=((c7.picks [9,9,7,7,9,7,9,9]).dropAt 8 rfl)
  have f7:Sat W _ ([(f0, .cells #[.slice t nt kt,I k1] 72 (0,0))]::[(g0, .cells (encCfg c).toArray 24 (0,0))]::l1::m1::(c1++(d1++Gj))::co::[(q0, .cells #[I 1,I 0,I 0,I (nj:Int),I 0,I 0,I 0] 63 (0,0))]::H::F):=Sat.perm (show Sat W _ ([(f0, .cells #[.slice t nt kt,I k1] 72 (0,0))]::[(g0, .cells (encCfg c).toArray 24 (0,0))]::l1::m1::c1::d1::Gj::co::[(q0, .cells #[I 1,I 0,I 0,I (nj:Int),I 0,I 0,I 0] 63 (0,0))]::H::F) from e7) (by simp)
  exact ⟨(k1,K+1,(addF F0 (nj:Int) e0 p0),l1,z6,(nj+1),a7,(js++[(⟨⟨z0,a1,b1,e0⟩⟩:TL)]),m1,(c1++(d1++Gj)),(At q0 0),1,1,[(⟨1,0,0,(nj:Int),0,0,0⟩:Evt)],[(q0, .cells #[I 1,I 0,I 0,I (nj:Int),I 0,I 0,I 0] 63 (0,0))]),alB,f7,om,t6,(w6.mono om om om),b7,(by
    intro z hz
    rcases List.mem_append.1 hz with h|h
    ·exact (hDj z h).of_mem mS
    ·rw [List.mem_singleton.1 h];exact ⟨(e1.rdAt (cs:=[c1,d1,Gj]) 0 rfl).of_mem (fun p hp=>by simp at hp⊢;exact hp),fun y hy=>(o2 y hy).of_mem mS⟩),d7,(by rw [List.map_append];exact a3),om,(by first|omega|(simp<;>omega))⟩
 refine jCC 6 rfl<|cE j0 2 (fun g7=>?_) (fun g7=>?_)
 ·refine jCO 3 rfl ?_
  have h7:=(h0.pick 2 rfl)
  refine cX call21 (pf_crash hFR hFJ.i c0 h7.flat1) ?_
  rintro _ _ ⟨i7,j7,k7,l7,m7,rfl,n1,n7,o7⟩
  have p7:=o7.unflat2;have hn_az_211:=n1.len;have hl_az_211:=n1.le
  have q7:=FJ.crash (x:=c0) hFJ om
  have r7:=Tr.crash c0 hTr
  have hlc:=crash_len (F:=F0) (x:=c0)
  exact jOI 6 rfl<|⟨(m0,K+1,(crashF F0 c0).1,m7,aj,nj,kj,js,cj,Gj,i7,j7,k7,(crashF F0 c0).2.1,l7),alB,(p7.picks [6,6,6,4,6,6]),om,n7,(q7.mono om om om),hOj,hDj,n1,r7,om,(by first|omega|(simp<;>omega))⟩
 refine jCC 7 rfl<|cE j0 3 (fun b3=>?_) (fun b3=>?_)
 ·refine jCC 2 rfl<|cT _ (beq_iff_eq.2 b3)<|jCO 3 rfl ?_
  have t7:=(h0.pick 2 rfl)
  refine cX call23 (pf_restart hFR hFJ.i c0 t7.flat1) ?_
  rintro _ _ ⟨u7,v7,w7,x7,y7,rfl,o1,z7,a8⟩
  have b8:=a8.unflat2;have hn_az_226:=o1.len;have hl_az_226:=o1.le
  have c8:=FJ.restart (x:=c0) hFJ om
  have d8:=Tr.restart c0 hTr
  have hlc:=restart_len (F:=F0) (x:=c0)
  exact jOI 6 rfl<|⟨(m0,K+1,(restartF F0 c0).1,y7,aj,nj,kj,js,cj,Gj,u7,v7,w7,(restartF F0 c0).2.1,x7),alB,(b8.picks [6,6,6,4,6,6]),om,z7,(c8.mono om om om),hOj,hDj,o1,d8,om,(by first|omega|(simp<;>omega))⟩
 refine jCC 5 rfl<|cE j0 4 (fun f8=>?_) (fun f8=>?_)
 ·refine jCO 3 rfl ?_
  have g8:=(h0.pick 2 rfl)
  refine cX call23 (pf_restart hFR hFJ.i c0 g8.flat1) ?_
  rintro _ _ ⟨h8,i8,j8,k8,l8,rfl,q1,m8,n8⟩
  have o8:=n8.unflat2;have hn_az_241:=q1.len;have hl_az_241:=q1.le
  have p8:=FJ.restart (x:=c0) hFJ om
  have q8:=Tr.restart c0 hTr
  have hlc:=restart_len (F:=F0) (x:=c0)
  exact jOI 6 rfl<|⟨(m0,K+1,(restartF F0 c0).1,l8,aj,nj,kj,js,cj,Gj,h8,i8,j8,(restartF F0 c0).2.1,k8),alB,(o8.picks [6,6,6,4,6,6]),om,m8,(p8.mono om om om),hOj,hDj,q1,q8,om,(by first|omega|(simp<;>omega))⟩
 refine jCC 6 rfl<|cE j0 5 (fun s8=>?_) (fun s8=>?_)
 rotate_left
 ·refine jCO 4 rfl<|cX call13 (tape_next (RdT.flat (ht.up 5 (by rfl))) om h0.flat1 9 om) ?_
  rintro _ _ ⟨k0,rfl,_,t8,_,u8⟩
  have v8:=u8.unflat1
  have w8:=(v8.pick 2 rfl)
  refine cX call27 (pf_step hFR hFJ.i c0 k0 hFJ.t om w8.flat1) ?_
  rintro _ _ ⟨x8,y8,z8,a9,b9,rfl,r1,c9,d9⟩
  have e9:=d9.unflat2;have hn_az_294:=r1.len;have hl_az_294:=r1.le
  have f9:=FJ.step (x:=c0) (c:=k0) hFJ om
  have g9:=Tr.step c0 k0 hTr
  have hlc:=step_len (F:=F0) (x:=c0) (c:=k0)
  exact jOI 6 rfl<|⟨(t8,K+1,(stepF F0 c0 k0).1,b9,aj,nj,kj,js,cj,Gj,x8,y8,z8,(stepF F0 c0 k0).2.1,a9),alB,(e9.picks [6,6,6,4,6,6]),om,c9,(f9.mono om om om),hOj,hDj,r1,g9,om,(by first|omega|(simp<;>omega))⟩
 refine jCO 3 rfl<|cX call13 (tape_next (RdT.flat (ht.up 5 (by rfl))) om h0.flat1 3 om) ?_
 rintro _ _ ⟨i9,rfl,_,j9,_,k9⟩
 have c3:=k9.unflat1
 refine jOC 3 rfl<|cE i9 2 (fun l9=>?_) (fun l9=>?_)
 rotate_left
 ·refine jCI 2 rfl ?_
  have m9:=Sat.nilc c3
  exact ⟨(j9,K,F0,M0,aj,nj,kj,js,cj,Gj,none,0,0,[],([]:Chunk)),alB,(m9.picks [6,6,6,6,6,6]),om,hFR,(hFJ.mono om om om),hOj,hDj,OwnT.nil fR,(by rw [List.append_nil];exact hTr),om,(by first|omega|(simp<;>omega))⟩
 refine jCO 3 rfl<|cX call13 (tape_next (RdT.flat (ht.up 5 (by rfl))) om c3.flat1 4 om) ?_
 rintro _ _ ⟨l0,rfl,_,o9,_,p9⟩
 have q9:=p9.unflat1
 have r9:=(q9.pick 2 rfl)
 refine cX call25 (pf_cancel hFR hFJ.i l0 r9.flat1) ?_
 rintro _ _ ⟨s9,t9,u9,v9,w9,rfl,s1,x9,y9⟩
 have z9:=y9.unflat2;have hn_az_271:=s1.len;have hl_az_271:=s1.le
 have aa:=FJ.cancel (x:=l0) hFJ om
 have ba:=Tr.cancel l0 hTr
 have hlc:=cancel_len (F:=F0) (k:=l0)
 exact jOI 6 rfl<|⟨(o9,K+1,(cancelF F0 l0).1,w9,aj,nj,kj,js,cj,Gj,s9,t9,u9,(cancelF F0 l0).2.1,v9),alB,(z9.picks [6,6,6,4,6,6]),om,x9,(aa.mono om om om),hOj,hDj,s1,ba,om,(by first|omega|(simp<;>omega))⟩
end Go.Proofs.YtkadmghedmodbaaGreat
