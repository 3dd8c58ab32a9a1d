import Derived.Test.YtkadmghedmodbaaGreatR2P1Au3
set_option linter.all false
namespace Go.Proofs.YtkadmghedmodbaaGreat
open Go Go.E Go.Proofs.Tryz
set_option linter.all false
set_option maxRecDepth 100000
set_option maxHeartbeats 2000000
variable {W w:World} {H:Chunk} {F:List Chunk}
theorem au_check (c:Cfg) (ao:Option Addr) (no ko:Nat) (o:List TL) (al:Option Addr) (nl kl:Nat) (l:List Evt) (ho:RdT encTL 1 [H] ao no ko o) (do_:∀z∈o,TL.Ok [H] z) (hl:RdT encEvt 7 [H] al nl kl l) (ho12:∀z∈o,z.l.l.length<=12) (hlb:l.length<=100000) (hS:Sat W w (H::F)):
  Ro prog 35 #[.agg (encCfg c).toArray, .slice ao no ko, .slice al nl kl] (.tuple #[I ((checkM o c l).1), .bool ((checkM o c l).2)]) W w (H::F):=by
 have G0:=ho.ll
 have F0:=hl.ll
 refine callsK 39 func35 rfl<|jCO 2 rfl<|sBx hS (encCfg c) fun k0 _ l0=>gOO l0 8 [800] rfl<|cS (ad_valid c l0.flat) fun _ d0=>jOC 3 rfl<|CN (validCfg c) 0 (fun e0=>jCR 8 rfl<|retT [I 0, .bool false]<|(by have m0:=(d0.dropAt 0 rfl);have C0:checkM o c l=(0,false):=(by unfold checkM;rw [if_neg e0]);rw [C0];exact ⟨rfl,m0⟩)) fun e0=>jCC 3 rfl ?_
 have A0:validCfg c=0:=e0;have H0:=validCfg_zero A0
 refine gCO d0 4 [0] rfl<|sMake (kl:= .i64) (kc:= .i64) (enc:=encWk) (sz:=5) (nb:=40) d0 ⟨0,0,0,0,0⟩ (c.workers).toNat c.workers (om:c.workers=(((c.workers).toNat:Nat):Int)) underlying144 (i:=Tryz.t200) kr fR fun a0 f0 _ n0 o0=>pu1<|sBx o0 [.slice ao no ko, .slice (At a0 0) ((c.workers).toNat) ((c.workers).toNat),nS,I 0] fun b0 _ p0=>jOC 12 rfl ?_
 have q0:Sat W _ (([(b0, .cells #[.slice ao no ko, .slice (At a0 0) ((c.workers).toNat) ((c.workers).toNat),nS,I 0] 147 (0,0))]++(f0++(([]:Chunk)++([]:List Chunk).flatten)))::[(k0, .cells (encCfg c).toArray 24 (0,0))]::H::F):=Sat.perm (show Sat W _ ([(b0, .cells #[.slice ao no ko, .slice (At a0 0) ((c.workers).toNat) ((c.workers).toNat),nS,I 0] 147 (0,0))]::f0::[(k0, .cells (encCfg c).toArray 24 (0,0))]::H::F) from p0) (by simp)
 refine loopF [2,8,20,21] (γ:=Nat×MS×Chunk) (fun ⟨i,m,M⟩ R=>⟨[(22,I (i:Int))],M::R,nl-i,i<=nl/\MachR b0 a0 0 H o m M/\MW m (i:Int)/\checkM o c l=runM o m (l.drop i) i⟩) (0,(startM c),([(b0, .cells #[.slice ao no ko, .slice (At a0 0) ((c.workers).toNat) ((c.workers).toNat),nS,I 0] 147 (0,0))]++(f0++(([]:Chunk)++([]:List Chunk).flatten)))) ⟨q0,om,⟨_,none,_,_,_,_,0,0,[],_,[],[],rfl,n0,OwnT.nil fR,Obs.nil _,ho,do_⟩,(startM_ok c),(by unfold checkM;rw [if_pos A0];rfl)⟩ ?_
 rintro ⟨i,m,M⟩ ρ _ ⟨g0,hi,hM,D0,B0⟩
 refine jCC 6 rfl<|CD ((i:Int)<(nl:Int)) (fun r0=>jCR 14 rfl<|retT [I (nl:Int), .bool true]<|(by have s0:=(g0.drops [0,0]);obtain rfl:i=nl:=(by omega);have C0:checkM o c l=((i:Int),true):=B0.trans (by rw [List.drop_of_length_le om];rfl);rw [C0];exact ⟨rfl,s0⟩)) fun r0=>jCO 7 rfl<|sIN hl i fun h0 _ _ i0 t0=>sMA g0 (t0.up 2 rfl) 0 (encEvt h0)<|sAlloc g0 zeroValue63 fun _ _ u0=>pu1<|sTk u0 0 rfl (encEvt h0) fun _ v0=>jOC 3 rfl<|drawF v0 [6] (fb 1 0 0 7<|fn) [0,2,3,4,5,1,6,7] fun _ w0=>wV 3<|wAdd (i:Int) 1 ?_
 have x0:=hl.part (lo:=(((i:Int)+1)).toNat) (hi:=nl) om om
 refine wY (.slice (partAddr al kl ((((i:Int)+1)).toNat) 7) (nl-((((i:Int)+1)).toNat)) (kl-((((i:Int)+1)).toNat))) rfl (fun w _=>Y_sl (a:=al) (len:=nl) (cap:=kl) (some ((i:Int)+1)) none ((((i:Int)+1)).toNat) nl runUnderlying26 sizeOf63 ⟨om,om⟩ rfl om om)<|wG 0 7<|wO rfl ?_
 have y0:=(w0.picks [3,2])
 have z0:((l.drop ((((i:Int)+1)).toNat)).take (nl-((((i:Int)+1)).toNat)))=l.drop (i+1):=by rw [List.take_of_length_le (by rw [List.length_drop];omega)];congr 1<;>omega
 have E0:=x0;rw [z0] at E0
 refine cZ (am_event hM D0 h0 _ _ _ _ E0 y0) ?_
 rintro _ _ (⟨c0,rfl,j0⟩|⟨a1,b1,c0,rfl,c1,j0⟩)
 ·exact nA<|wV 1<|wN<|jXR 15 rfl<|retT [I (i:Int), .bool false]<|(by have d1:=(j0.drops [1,1]);have C0:checkM o c l=((i:Int),false):=B0.trans (run_no i0 c0);rw [C0];exact ⟨rfl,d1⟩)
 exact nA<|wV 1<|wN<|jXO 6 rfl<|sAdd (i:Int) 1<|jOI 2 rfl<|⟨(i+1,a1,b1),od,alB,((j0.picks [3,1]).dropAt 3 rfl),om,c1,(event_ok D0 om ho12 c0).1,(B0.trans (run_yes i0 c0))⟩
def count1 (s:Stt) (e:Evt):Stt:=
  if e.kind=3\/e.kind=4 then {s with starts:=s.starts+1} else if e.kind=5 then {s with starts:=s.starts+1,steals:=s.steals+1}
  else if e.kind=8 then {s with commits:=s.commits+1} else if e.kind=9 then {s with drops:=s.drops+1}
  else if e.kind=10 then {s with crashes:=s.crashes+1} else if e.kind=12 then {s with helps:=s.helps+1} else s
def countE (l:List Evt):Stt:=l.foldl count1 ⟨0,0,0,0,0,0,0,0,0,0⟩
theorem count_take {l:List Evt} {i:Nat} {e:Evt} (h:l[i]?=some e):countE (l.take (i+1))=count1 (countE (l.take i)) e:=by
  unfold countE;rw [take_succ_at h,List.foldl_append];rfl
def CntOk (s:Stt) (n:Nat):Prop:=(0<=s.starts/\s.starts<=n)/\(0<=s.commits/\s.commits<=n)/\(0<=s.drops/\s.drops<=n)/\(0<=s.crashes/\s.crashes<=n)/\(0<=s.steals/\s.steals<=n)/\(0<=s.helps/\s.helps<=n)
theorem CntOk.step {s:Stt} {n:Nat} {e:Evt} (h:CntOk s n):CntOk (count1 s e) (n+1):=by
  unfold CntOk at*
  unfold count1
  split
  · dsimp only;omega
  · split
    · dsimp only;omega
    · split
      · dsimp only;omega
      · split
        · dsimp only;omega
        · split
          · dsimp only;omega
          · split
            · dsimp only;omega
            · omega
theorem count_ok {l:List Evt}:∀{i:Nat},CntOk (countE (l.take i)) i
  |0=>by unfold CntOk countE;simp
  |i+1=>by
    by_cases h:i<l.length
    · rw [count_take (List.getElem?_eq_getElem h)];exact count_ok.step
    · exact (by rw [List.take_of_length_le (by omega)];have:=count_ok (l:=l) (i:=i);rw [List.take_of_length_le (by omega)] at this;unfold CntOk at*;omega)
theorem au_count (al:Option Addr) (nl kl:Nat) (l:List Evt) (hl:RdT encEvt 7 [H] al nl kl l) (hlb:l.length<=100000) (hS:Sat W w (H::F)):
  Ro prog 37 #[.slice al nl kl] (.agg #[I ((countE l).starts),I ((countE l).commits),I ((countE l).drops),I ((countE l).crashes),I ((countE l).steals),I ((countE l).helps),I ((countE l).spills),I ((countE l).queued),I ((countE l).held),I ((countE l).cells)]) W w (H::F):=by
 have B0:=hl.ll
 refine callsK 57 func37 rfl<|jCO 2 rfl<|sAlloc hS zeroValue67 fun _ _ h0=>jOO 4 rfl<|sAlloc h0 zeroValue67 fun i0 _ j0=>jOC 11 rfl<|loopF [2,3,6,7] (γ:=Nat×Stt) (fun ⟨i,s⟩ R=>⟨[(8,I (i:Int))],[(i0, .cells (encStt s).toArray 67 (0,0))]::R,nl-i,i<=nl/\s=countE (l.take i)/\CntOk s i⟩) (0,⟨0,0,0,0,0,0,0,0,0,0⟩) ⟨j0,om,rfl,(by unfold CntOk;simp)⟩ ?_
 rintro ⟨i,s⟩ ρ _ ⟨d0,hi,hs,C0⟩
 unfold CntOk at C0
 refine jCC 6 rfl<|CD ((i:Int)<(nl:Int)) (fun k0=>gCO d0 8 [1000] rfl<|sTk d0 1 rfl (encStt s) fun _ e0=>jOR 3 rfl<|retN (vs:=[.agg (encStt s).toArray]) rfl (.cons (.cell _ _ _ _ kr (lvA e0 1 0 (encStt s) (isAgg67 _) (sizeOf67 _) rfl rfl rfl)) .nil)<|(by have l0:=(e0.drops [0,0]);rw [List.take_of_length_le om] at hs;subst hs;exact ⟨rfl,l0⟩)) fun k0=>jCO 6 rfl<|sIN hl i fun b0 _ _ c0 m0=>sMA d0 (m0.up 2 rfl) 0 (encEvt b0)<|sAlloc d0 zeroValue63 fun _ _ n0=>sTk n0 0 rfl (encEvt b0) fun _ a0=>gOC a0 16 [0] rfl<|cE b0.kind 3 (fun f0=>jCC 2 rfl<|cT _ (beq_iff_eq.2 f0)<|gCO a0 3 [1] rfl<|sAdd s.starts 1<|pu1<|tWk a0 1 rfl 0 (I (s.starts+1)) fun _ o0=>jOO 5 rfl<|sAdd (i:Int) 1<|jOI 2 rfl<|(by have p0:=(o0.dropAt 0 rfl);have A0:countE (l.take (i+1))=({s with starts:=(s.starts+1)}:Stt):=(by rw [count_take c0,<-hs];unfold count1;rw [if_pos om]);exact ⟨(i+1,({s with starts:=(s.starts+1)}:Stt)),od,alB,p0,om,A0.symm,(by rw [<-A0];exact count_ok)⟩)) fun f0=>jCC 5 rfl<|cE b0.kind 4 (fun q0=>gCO a0 3 [1] rfl<|sAdd s.starts 1<|pu1<|tWk a0 1 rfl 0 (I (s.starts+1)) fun _ r0=>jOO 5 rfl<|sAdd (i:Int) 1<|jOI 2 rfl<|(by have s0:=(r0.dropAt 0 rfl);have A0:countE (l.take (i+1))=({s with starts:=(s.starts+1)}:Stt):=(by rw [count_take c0,<-hs];unfold count1;rw [if_pos om]);exact ⟨(i+1,({s with starts:=(s.starts+1)}:Stt)),od,alB,s0,om,A0.symm,(by rw [<-A0];exact count_ok)⟩)) fun q0=>?_
 refine jCC 6 rfl<|cE b0.kind 5 (fun t0=>gCO a0 4 [1] rfl<|sAdd s.starts 1<|pu1<|tWk a0 1 rfl 0 (I (s.starts+1)) fun _ g0=>gOO g0 5 [1] rfl<|sAdd s.steals 1<|pu1<|tWk g0 1 rfl 4 (I (s.steals+1)) fun _ u0=>jOO 5 rfl<|sAdd (i:Int) 1<|jOI 2 rfl<|(by have v0:=(u0.dropAt 0 rfl);have A0:countE (l.take (i+1))=({s with starts:=(s.starts+1),steals:=(s.steals+1)}:Stt):=(by rw [count_take c0,<-hs];unfold count1;rw [if_neg om,if_pos om]);exact ⟨(i+1,({s with starts:=(s.starts+1),steals:=(s.steals+1)}:Stt)),od,alB,v0,om,A0.symm,(by rw [<-A0];exact count_ok)⟩)) fun t0=>jCC 6 rfl<|cE b0.kind 8 (fun w0=>gCO a0 3 [1] rfl<|sAdd s.commits 1<|pu1<|tWk a0 1 rfl 1 (I (s.commits+1)) fun _ x0=>jOO 5 rfl<|sAdd (i:Int) 1<|jOI 2 rfl<|(by have y0:=(x0.dropAt 0 rfl);have A0:countE (l.take (i+1))=({s with commits:=(s.commits+1)}:Stt):=(by rw [count_take c0,<-hs];unfold count1;rw [if_neg om,if_neg om,if_pos om]);exact ⟨(i+1,({s with commits:=(s.commits+1)}:Stt)),od,alB,y0,om,A0.symm,(by rw [<-A0];exact count_ok)⟩)) fun w0=>jCC 6 rfl<|cE b0.kind 9 (fun z0=>gCO a0 3 [1] rfl<|sAdd s.drops 1<|pu1<|tWk a0 1 rfl 2 (I (s.drops+1)) fun _ a1=>jOO 5 rfl<|sAdd (i:Int) 1<|jOI 2 rfl<|(by have b1:=(a1.dropAt 0 rfl);have A0:countE (l.take (i+1))=({s with drops:=(s.drops+1)}:Stt):=(by rw [count_take c0,<-hs];unfold count1;rw [if_neg om,if_neg om,if_neg om,if_pos om]);exact ⟨(i+1,({s with drops:=(s.drops+1)}:Stt)),od,alB,b1,om,A0.symm,(by rw [<-A0];exact count_ok)⟩)) fun z0=>?_
 refine jCC 6 rfl<|cE b0.kind 10 (fun c1=>gCO a0 3 [1] rfl<|sAdd s.crashes 1<|pu1<|tWk a0 1 rfl 3 (I (s.crashes+1)) fun _ d1=>jOO 5 rfl<|sAdd (i:Int) 1<|jOI 2 rfl<|(by have e1:=(d1.dropAt 0 rfl);have A0:countE (l.take (i+1))=({s with crashes:=(s.crashes+1)}:Stt):=(by rw [count_take c0,<-hs];unfold count1;rw [if_neg om,if_neg om,if_neg om,if_neg om,if_pos om]);exact ⟨(i+1,({s with crashes:=(s.crashes+1)}:Stt)),od,alB,e1,om,A0.symm,(by rw [<-A0];exact count_ok)⟩)) fun c1=>jCC 6 rfl<|CE b0.kind 12 (fun f1=>jCO 5 rfl<|sAdd (i:Int) 1<|jOI 2 rfl<|(by have g1:=(a0.dropAt 0 rfl);have A0:countE (l.take (i+1))=s:=(by rw [count_take c0,<-hs];unfold count1;rw [if_neg om,if_neg om,if_neg om,if_neg om,if_neg om,if_neg om]);exact ⟨(i+1,s),od,alB,g1,om,A0.symm,(by rw [<-A0];exact count_ok)⟩)) fun f1=>gCO a0 3 [1] rfl<|sAdd s.helps 1<|pu1<|tWk a0 1 rfl 5 (I (s.helps+1)) fun _ h1=>jOO 5 rfl<|sAdd (i:Int) 1<|jOI 2 rfl ?_
 have i1:=(h1.dropAt 0 rfl)
 have A0:countE (l.take (i+1))=({s with helps:=(s.helps+1)}:Stt):=by rw [count_take c0,<-hs];unfold count1;rw [if_neg om,if_neg om,if_neg om,if_neg om,if_neg om,if_pos om]
 exact ⟨(i+1,({s with helps:=(s.helps+1)}:Stt)),od,alB,i1,om,A0.symm,(by rw [<-A0];exact count_ok)⟩
def stepAll (off:List TL):MS->List Evt->Option MS
  |m,[]=>some m
  |m,e::l=>match eventM off m e l with
    |none=>none
    |some m'=>stepAll off m' l
theorem event_head {off:List TL} {m:MS} {e:Evt} {l l':List Evt} (h:e.kind≠12\/l.head?=l'.head?):eventM off m e l=eventM off m e l':=by
 unfold eventM
 split
 ·refine bD (e.kind=12) (fun a0=>(by have h2:l.head?=l'.head?:=h.resolve_left (fun k=>k a0);rw [evK_12 a0,evK_12 a0];have h3:helpM m.jobs m.ws m.rd (m.ws.getD e.worker.toNat default) e.from_ l=helpM m.jobs m.ws m.rd (m.ws.getD e.worker.toNat default) e.from_ l':=(by unfold helpM;rw [h2]);rw [h3])) fun a0=>?_
  by_cases h1:e.kind=1
  ·rw [evK_1 h1,evK_1 h1]
  by_cases h2:e.kind=2
  ·rw [evK_2 h2,evK_2 h2]
  by_cases h3:e.kind=3\/e.kind=4
  ·rw [evK_3 h3,evK_3 h3]
  by_cases h5:e.kind=5
  ·rw [evK_5 h5,evK_5 h5]
  by_cases h6:e.kind=6\/e.kind=7\/e.kind=8
  ·rw [evK_6 h6,evK_6 h6]
  by_cases h9:e.kind=9
  ·rw [evK_9 h9,evK_9 h9]
  by_cases b0:e.kind=10
  ·rw [evK_10 b0,evK_10 b0]
  by_cases c0:e.kind=11
  ·rw [evK_11 c0,evK_11 c0]
  by_cases d0:e.kind=13
  ·rw [evK_13 d0,evK_13 d0]
  rw [evK_no om,evK_no om]
 ·rfl
theorem help_no {off:List TL} {m:MS} {e:Evt} {l:List Evt} (h:e.kind=12) (hl:∀n,l.head?=some n->¬(n.kind=6\/n.kind=7\/n.kind=8)):eventM off m e l=none:=by
  unfold eventM
  split
  · rw [evK_12 h,if_neg]
    intro k
    have k:=k.2
    unfold helpM at k
    cases hh:l.head? with
    |none=>rw [hh] at k;simp at k
    |some n=>rw [hh] at k;simp at k;exact hl n hh (by omega)
  · rfl
theorem stepAll_app {off : List TL} : ∀ {l : List Evt} {m m' : MS} {l2 : List Evt}, stepAll off m l = some m' -> stepAll off m (l ++ l2) = stepAll off m' l2
 | [], m, m', l2, h => by obtain rfl := Option.some.inj h; rfl
 | e :: l, m, m', l2, h => by
  simp only [stepAll] at h
  cases he : eventM off m e l with
  | none => rw [he] at h; cases h
  | some m1 =>
   rw [he] at h
   have h1 : eventM off m e (l ++ l2) = some m1 := by
    rw [<- he]
    apply event_head
    cases l with
    | nil =>
     left; intro k
     rw [help_no k (fun n hn => by cases hn)] at he; cases he
    | cons y l => right; rfl
   show (match eventM off m e (l ++ l2) with | none => none | some m' => stepAll off m' (l ++ l2)) = _
   rw [h1]; exact stepAll_app h

structure QI_r (F:FS):Prop where
  c:∀r,cnt F r=(rdyJ F.jobs r).toNat
  q4:F.q.bs.length=4
  cap:F.q.cap=512
def allR:Nat->List JS->List Ref
  |_,[]=>[]
  |k,j::l=>(if j.added then (List.range j.tasks.length).map (fun (t:Nat)=>(⟨(k:Int),(t:Int)⟩:Ref)) else [])++allR (k+1) l
theorem allR_len:∀{l:List JS} {k:Nat},(allR k l).length=totS (shapeF l)
  |[],_=>rfl
  |j::l,k=>by
    have ih:=allR_len (l:=l) (k:=k+1)
    simp only [allR,List.length_append,ih,totS,shapeF,List.map_cons,List.sum_cons]
    congr 1
    cases j.added<;>simp
theorem allR_mem:∀{l:List JS} {k i:Nat} {j:JS} {t:Int},l[i]?=some j->j.added=true->0<=t->t<(j.tasks.length:Int)->(⟨((k+i:Nat):Int),t⟩:Ref)∈allR k l
 |[],_,_,_,_,h,_,_,_=>by cases h
 |x::l,k,0,j,t,h,ha,h0,h1=>by
  obtain rfl:x=j:=by simpa using h
  unfold allR
  apply List.mem_append_left
  rw [if_pos ha]
  exact List.mem_map.2 ⟨t.toNat,List.mem_range.2 om,by rw [show (t.toNat:Int)=t by omega];rfl⟩
 |x::l,k,i+1,j,t,h,ha,h0,h1=>by
  have ih:=allR_mem (l:=l) (k:=k+1) (i:=i) (j:=j) (t:=t) (by simpa using h) ha h0 h1
  unfold allR
  apply List.mem_append_right
  rw [show k+(i+1)=k+1+i by omega];exact ih
theorem QI_r.small {F:FS} {K:Int} (h:QI_r F) (hF:FW F K):totB F.q.bs<=((totS (shapeF F.jobs):Nat):Int):=by
 have h1:F.q.bs.flatten.length<=(allR 0 F.jobs).length:=by
  apply len_le
  intro r
  have h2:F.q.bs.flatten.count r=cQ F.q.bs r:=by rw [List.count_flatten];rfl
  rw [h2]
  have h3:=h.c r
  unfold cnt at h3
  cases hr:rdyJ F.jobs r with
  |false=>rw [hr] at h3;simp at h3;omega
  |true=>
   rw [hr] at h3
   obtain ⟨h0,j,hj,a0,b0⟩:=rdy_some hr
   have hJ:=hF.j j (List.mem_of_getElem? hj)
   have ha:=hJ.r a0
   obtain ⟨hW,hd,_,_⟩:=hJ.b ha
   have hi:=stAt_in b0 (by decide)
   have hm:=allR_mem (k:=0) (t:=r.task) hj ha hi.1 (by rw [hW.ls,hd] at hi;exact hi.2)
   rw [show (⟨((0+r.job.toNat:Nat):Int),r.task⟩:Ref)=r by cases r;simp only at h0⊢;congr 1;omega] at hm
   have:=List.count_pos_iff.2 hm
   simp at h3;omega
 rw [allR_len] at h1
 have h2:totB F.q.bs=(F.q.bs.flatten.length:Int):=by unfold totB;rw [List.length_flatten]
 omega
theorem inv_take_r {F F1:FS} {K x:Int} {r0:Ref} (hF:FW F K) (q:QI_r F) (h:HI F) (hv:∀v,F.ws[x.toNat]?=some v->¬Holds v)
  (hc:∀r,cnt F r=cnt F1 r+eq1 r0 r) (hj:F1.jobs=F.jobs) (hw:F1.ws=F.ws) (hq:F1.q.bs.length=4/\F1.q.cap=512):
  QI_r (takeF F1 x r0)/\HI (takeF F1 x r0)/\∃j,F.jobs[r0.job.toNat]?=some j/\0<=r0.job/\j.running=true/\j.added=true/\stAt j.B.st r0.task=2/\BWf j.B K/\takeF F1 x r0={F1 with ws:=F.ws.set x.toNat ⟨1,r0.job,r0.task,j.B.att.getD r0.task.toNat 0,0,0,(F1.ar.getD x.toNat default).high⟩,jobs:=F.jobs.set r0.job.toNat {j with B:=⟨j.B.deps,j.B.st.set r0.task.toNat 3,j.B.att⟩},st:={F1.st with starts:=F1.st.starts+1}}:=by
 have hr:rdyJ F.jobs r0=true:=by
  have h1:=hc r0
  have h2:=q.c r0
  cases hr:rdyJ F.jobs r0 with
  |true=>rfl
  |false=>rw [hr] at h2;simp [eq1] at h1 h2;omega
 obtain ⟨h0,j,b0,a0,d0⟩:=rdy_some hr
 have hJ:=hF.j j (List.mem_of_getElem? b0)
 have ha:=hJ.r a0
 obtain ⟨hW,hd,hb⟩:=hJ.b ha
 have c0:=stAt_in d0 (by decide)
 have hs:=start_eq hW.ls d0
 have e:jobAt F1 r0.job=j:=by unfold jobAt;rw [hj];exact getD_some b0
 have hl:=(List.getElem?_eq_some_iff.1 b0).1
 have eT:takeF F1 x r0={F1 with ws:=F.ws.set x.toNat ⟨1,r0.job,r0.task,j.B.att.getD r0.task.toNat 0,0,0,(F1.ar.getD x.toNat default).high⟩,jobs:=F.jobs.set r0.job.toNat {j with B:=⟨j.B.deps,j.B.st.set r0.task.toNat 3,j.B.att⟩},st:={F1.st with starts:=F1.st.starts+1}}:=(by unfold takeF;rw [e,hs,hj,hw])
 refine ⟨?_,?_,j,b0,h0,a0,ha,d0,hW,eT⟩
 ·rw [eT]
  refine ⟨?_,hq.1,hq.2⟩
  intro r
  show cnt F1 r=(rdyJ (F.jobs.set r0.job.toNat _) r).toNat
  rw [rdy_set h0 hl]
  have h1:=hc r
  have h2:=q.c r
  by_cases e1:r.job=r0.job
  ·rw [if_pos e1]
   rw [rdy_at om (by rw [e1];exact b0),a0] at h2
   dsimp only
   rw [a0]
   by_cases e2:r.task=r0.task
   · exact (by have e3:r0=r:=ref_ext e1.symm e2.symm;subst e3;rw [stAt_self c0];rw [d0] at h2;simp [eq1] at h1 h2⊢;omega)
   · exact (by rw [stAt_other c0.1 e2];have e3:eq1 r0 r=0:=(by unfold eq1;rw [if_neg (fun k=>e2 (by rw [k]))]);omega)
  · exact (by rw [if_neg e1];have e3:eq1 r0 r=0:=(by unfold eq1;rw [if_neg (fun k=>e1 (by rw [k]))]);omega)
 ·refine h.upd (x:=x.toNat) (v':=⟨1,r0.job,r0.task,j.B.att.getD r0.task.toNat 0,0,0,(F1.ar.getD x.toNat default).high⟩) (by rw [eT]) ?_ ?_ (fun k=>absurd (.inl rfl) k)
  · exact h.others (k:=r0.job.toNat) (j':={j with B:=⟨j.B.deps,j.B.st.set r0.task.toNat 3,j.B.att⟩}) b0 (by rw [eT]) (fun h=>h) fun y v hy f0 hh hk e0=>(by have h3:=(heldC_zero e0).2.1;have h4:v.heldTask≠r0.task:=(by intro k;rw [k] at h3;omega);exact heldC_keep e0 rfl (stAt_other c0.1 h4) rfl)
  ·intro _
   refine ⟨⟨{j with B:=⟨j.B.deps,j.B.st.set r0.task.toNat 3,j.B.att⟩},?_,ha,?_⟩,?_⟩
   ·rw [eT];exact set_at b0
   ·exact heldC_of (B:=⟨j.B.deps,j.B.st.set r0.task.toNat 3,j.B.att⟩) ⟨c0.1,by rw [<-hW.ls];exact c0.2⟩ (stAt_self c0) rfl
   · exact (by intro y v hy f0 hh hk;obtain ⟨j2,h1,h2,h3⟩:=h.h y v f0 hh;have k1:v.heldJob=r0.job:=hk.1;have k2:v.heldTask=r0.task:=hk.2;rw [k1,b0] at h1;obtain rfl:=Option.some.inj h1;have h4:=(heldC_zero h3).2.1;rw [k2] at h4;omega)
theorem inv_acq_r {F F':FS} {K x c:Int} {ev:Evt} (hF:FW F K) (q:QI_r F) (h:HI F) (hx:0<=x/\x<(F.ws.length:Int)) (hv:∀v,F.ws[x.toNat]?=some v->¬Holds v) (he:acqF F x c=some (F',ev)):
  QI_r F'/\HI F'/\∃(r0:Ref) (j:JS),F.jobs[r0.job.toNat]?=some j/\0<=r0.job/\j.running=true/\j.added=true/\stAt j.B.st r0.task=2/\BWf j.B K/\(∃hh:Int,F'.ws=F.ws.set x.toNat ⟨1,r0.job,r0.task,j.B.att.getD r0.task.toNat 0,0,0,hh⟩)/\F'.jobs=F.jobs.set r0.job.toNat {j with B:=⟨j.B.deps,j.B.st.set r0.task.toNat 3,j.B.att⟩}/\
   (ev=⟨3,x,0,0,r0.job,r0.task,0⟩\/ev=⟨4,x,0,0,r0.job,r0.task,0⟩\/∃f:Int,0<=f/\f<(F.ws.length:Int)/\f≠x/\ev=⟨5,x,f,0,r0.job,r0.task,0⟩):=by
 unfold acqF at he
 split at he
 · exact (by rename_i r hr;obtain ⟨rfl,rfl⟩:=Prod.mk.inj (Option.some.inj he);obtain ⟨a1,a2,j,b1,b2,b3,b4,b5,b6,b7⟩:=inv_take_r (F1:=popF F x (dqAt F x).l.dropLast) (x:=x) (r0:=r) hF q h hv (fun y=>cnt_pop (dq_some hF hx) (fun r=>last_count hr)) rfl rfl ⟨q.q4,q.cap⟩;exact ⟨a1,a2,r,j,b1,b2,b3,b4,b5,b6,⟨_,by rw [b7]⟩,by rw [b7], .inl rfl⟩)
 ·rename_i hlast
  split at he
  · exact (by rename_i r bs hq;obtain ⟨rfl,rfl⟩:=Prod.mk.inj (Option.some.inj he);obtain ⟨a1,a2,j,b1,b2,b3,b4,b5,b6,b7⟩:=inv_take_r (F1:={F with q:={F.q with bs:=bs}}) (x:=x) (r0:=r) hF q h hv (fun y=>by have:=cQ_pop (r:=y) hq;unfold cnt;dsimp only;omega) rfl rfl ⟨by rw [show ({F with q:={F.q with bs:=bs}}:FS).q.bs=bs from rfl,pop_len hq];exact q.q4,q.cap⟩;exact ⟨a1,a2,r,j,b1,b2,b3,b4,b5,b6,⟨_,by rw [b7]⟩,by rw [b7], .inr (.inl rfl)⟩)
  ·unfold stealF at he
   split at he
   ·cases he
   ·rename_i i hi
    split at he
    ·cases he
    ·rename_i r hr
     obtain ⟨rfl,rfl⟩:=Prod.mk.inj (Option.some.inj he)
     have hb:=chF_bd (F:=F) (c:=c) (i:=i) hF.n.1
     obtain ⟨a1,a2,j,b1,b2,b3,b4,b5,b6,b7⟩:=inv_take_r (F1:=popF F (chF F c i) (dqAt F (chF F c i)).l.tail) (x:=x) (r0:=r) hF q h hv (fun y=>cnt_pop (dq_some hF hb) (fun r=>head_count hr)) rfl rfl ⟨q.q4,q.cap⟩
     refine ⟨⟨a1.c,a1.q4,a1.cap⟩,⟨a2.h,a2.d,a2.z⟩,r,j,b1,b2,b3,b4,b5,b6,⟨((popF F (chF F c i) (dqAt F (chF F c i)).l.tail).ar.getD x.toNat default).high,?_⟩,?_, .inr (.inr ⟨chF F c i,hb.1,hb.2,?_,rfl⟩)⟩
     ·show (takeF _ x r).ws=_;rw [b7]
     ·show (takeF _ x r).jobs=_;rw [b7]
     · exact (by intro hxe;rw [hxe] at hr;have:(dqAt F x).l=[]:=List.getLast?_eq_none_iff.1 hlast;rw [this] at hr;cases hr)
theorem spill_cnt_r {x job band K:Int} (hb:0<=band/\band<4) (l:List Int):∀{F:FS},FW F K->(0<=x/\x<(F.ws.length:Int))->F.q.bs.length=4->F.q.cap=512->totB F.q.bs+l.length<512->(∀t∈l,RefOk (shapeF F.jobs) ⟨job,t⟩)->
  (∀r,cnt (spillF F x job band l) r=cnt F r+(l.map fun t=>(⟨job,t⟩:Ref)).count r)/\(spillF F x job band l).q.bs.length=4/\(spillF F x job band l).q.cap=512:=by
 induction l with
 |nil=>intro F _ _ h4 hc _ _;exact ⟨fun r=>by simp only [spillF,List.foldl_nil,List.map_nil,List.count_nil,Nat.add_zero],h4,hc⟩
 |cons t l ih=>
  intro F hF hx h4 hc ht hr
  have h0:=hr t List.mem_cons_self
  simp only [List.length_cons] at ht
  have hd:=dq_some hF hx
  have h1:FW (spill1 F x ⟨job,t⟩ band) K/\(spill1 F x ⟨job,t⟩ band).jobs=F.jobs/\(spill1 F x ⟨job,t⟩ band).ws=F.ws/\(∀r,cnt (spill1 F x ⟨job,t⟩ band) r=cnt F r+eq1 ⟨job,t⟩ r)/\(spill1 F x ⟨job,t⟩ band).q.bs.length=4/\(spill1 F x ⟨job,t⟩ band).q.cap=512/\totB (spill1 F x ⟨job,t⟩ band).q.bs<=totB F.q.bs+1:=by
   unfold spill1
   split
   · exact (by rename_i hp;refine ⟨hF.sd (pushD_mem h0 (hF.dr x)),rfl,rfl,?_,h4,hc,by dsimp only;omega⟩;intro r;have h2:=cnt_dq (d':=pushD (dqAt F x) ⟨job,t⟩) (r:=r) hd;have h3:(pushD (dqAt F x) ⟨job,t⟩).l=(dqAt F x).l++[⟨job,t⟩]:=(by unfold pushD;rw [if_pos (show pushC (dqAt F x)=0 from hp)]);rw [h3,List.count_append,count1_] at h2;show cnt {F with dq:=F.dq.set x.toNat (pushD (dqAt F x) ⟨job,t⟩)} r=_;omega)
   · exact (by obtain ⟨_,g2,g3,g4⟩:=cQ_pushQ (a:=(⟨job,t⟩:Ref)) (r:=⟨0,0⟩) hb h4 om;refine ⟨(hF.sq (pushQ_mem h0 hF.q)).ss,rfl,rfl,?_,g2,g3.trans hc,by dsimp only;omega⟩;intro r;have:=(cQ_pushQ (a:=(⟨job,t⟩:Ref)) (r:=r) hb h4 om).1;unfold cnt;dsimp only;omega)
  obtain ⟨a1,a2,a3,a4,a5,a6,a7⟩:=h1
  obtain ⟨b1,b2,b3⟩:=ih a1 (by rw [a3];exact hx) a5 a6 om (by rw [a2];exact fun t ht=>hr t (List.mem_cons_of_mem _ ht))
  have a0:spillF F x job band (t::l)=spillF (spill1 F x ⟨job,t⟩ band) x job band l:=by unfold spillF;rw [List.foldl_cons]
  rw [a0]
  refine ⟨?_,b2,b3⟩
  intro r
  rw [b1,a4,List.map_cons]
  have:List.count r ((⟨job,t⟩:Ref)::l.map fun t=>(⟨job,t⟩:Ref))=List.count r [(⟨job,t⟩:Ref)]+List.count r (l.map fun t=>(⟨job,t⟩:Ref)):=by rw [<-List.count_append];rfl
  rw [this,count1_];omega
theorem inv_micro_r {F:FS} {K x:Int} {v:Wkr} {j:JS} (hF:FW F K) (hK:K+1<=4096) (q:QI_r F) (h:HI F) (h20:totS (shapeF F.jobs)<=20) (h5:j.tasks.length<=5) (hx:0<=x/\x<(F.ws.length:Int)) (hv:F.ws[x.toNat]?=some v) (hh:Holds v) (hj:F.jobs[v.heldJob.toNat]?=some j) (hrun:j.running=true):
  QI_r (microF F x).1/\HI (microF F x).1:=by
 have hw:=hF.w v (List.mem_of_getElem? hv)
 obtain ⟨j2,c1,c2,c3⟩:=h.h _ v hv hh
 rw [hj] at c1;obtain rfl:=Option.some.inj c1
 have hJ:=hF.j j (List.mem_of_getElem? hj)
 obtain ⟨hW,hd,hb⟩:=hJ.b c2
 have e:jobAt F v.heldJob=j:=getD_some hj
 have h0:=fun k (hk:Holds v)=>h.h k v
 unfold microF
 simp only [getD_some hv,e]
 by_cases p1:v.phase=1
 · exact (by rw [if_pos p1];refine ⟨⟨q.c,q.q4,q.cap⟩,h.upd (x:=x.toNat) rfl h.same (fun _=>⟨⟨j,hj,c2,c3⟩,?_⟩) (fun k=>absurd (.inr (.inl rfl)) k)⟩;intro y u hy hu b0 k;exact h.d _ _ v u hv hu hy hh b0 ⟨k.1.symm,k.2.symm⟩)
 ·rw [if_neg p1]
  by_cases p2:v.phase=2
  · exact (by rw [if_pos p2];refine ⟨⟨q.c,q.q4,q.cap⟩,h.upd (x:=x.toNat) rfl h.same (fun _=>⟨⟨j,hj,c2,c3⟩,?_⟩) (fun k=>absurd (by unfold Holds;dsimp only;split<;>omega) k)⟩;intro y u hy hu b0 k;exact h.d _ _ v u hv hu hy hh b0 ⟨k.1.symm,k.2.symm⟩)
  ·rw [if_neg p2]
   have hz:=heldC_zero c3
   have hm:=hF.mono (L:=K+1) om hK
   have k2:=hw.h
   have hO:JobOk (K+1) {j with B:=(comB j.B v.heldTask v.attempt).1}:=⟨hJ.n,fun _=>⟨(com_wf hW).mono om,by rw [com_deps];exact hd,hb⟩,fun _=>c2⟩
   have e0:=(((hm.sj (k:=v.heldJob.toNat) (j':={j with B:=(comB j.B v.heldTask v.attempt).1}) hj rfl rfl hO).sa (k:=x.toNat) (a:=relA (F.ar.getD x.toNat default))).sw (k:=x.toNat) (v:=⟨0,0,0,0,0,0,(relA (F.ar.getD x.toNat default)).high⟩) ⟨⟨Int.le_refl 0,show (0:Int)<64 by decide⟩,⟨Int.le_refl 0,hm.k.1⟩,fun h=>by dsimp only at h;omega⟩).ss (s:={F.st with commits:=F.st.commits+1})
   have i0:=shape_set (j':={j with B:=(comB j.B v.heldTask v.attempt).1}) hj rfl rfl
   have l0:=q.small hF
   have k0:=com_len (B:=j.B) (i:=v.heldTask) (a:=v.attempt)
   have hr:=hw.t hh
   have c0:∀t∈(comB j.B v.heldTask v.attempt).2,RefOk (shapeF (F.jobs.set v.heldJob.toNat {j with B:=(comB j.B v.heldTask v.attempt).1})) ⟨v.heldJob,t⟩:=(by intro t ht2;have h3:=com_in ht2;rw [i0];obtain ⟨_,_,_,m,d0,_⟩:=hr;refine ⟨k2.1,k2.2,h3.1,m,d0,?_⟩;unfold shapeF at d0;rw [List.getElem?_map,hj] at d0;have:=(Prod.mk.inj (Option.some.inj d0)).2;dsimp only at this⊢;omega)
   obtain ⟨g1,g2,g3⟩:=spill_cnt_r (x:=x) (job:=v.heldJob) hb (comB j.B v.heldTask v.attempt).2 e0 (by simp only [List.length_set];exact hx) q.q4 q.cap (by dsimp only;omega) c0
   obtain ⟨_,s2,s3,_,_⟩:=spill_ok (x:=x) (job:=v.heldJob) (band:=j.band) (comB j.B v.heldTask v.attempt).2 e0 c0
   have f0:=(List.getElem?_eq_some_iff.1 hj).1
   have a0:∀r,cnt F r+((comB j.B v.heldTask v.attempt).2.map fun t=>(⟨v.heldJob,t⟩:Ref)).count r=if r.job=v.heldJob then (if stAt (comB j.B v.heldTask v.attempt).1.st r.task=2 then 1 else 0) else (rdyJ F.jobs r).toNat:=by
    intro r
    rw [q.c r,cmap]
    by_cases e1:r.job=v.heldJob
    · exact (by rw [if_pos e1,if_pos e1,rdy_at om (by rw [e1];exact hj),toNat_dec,if_pos hrun,com_eq c3];exact (com_two hW.ls hz.2.1).symm)
    ·rw [if_neg e1,if_neg e1,Nat.add_zero]
   have hH:∀F':FS,F'.ws=F.ws.set x.toNat ⟨0,0,0,0,0,0,(relA (F.ar.getD x.toNat default)).high⟩->(∃j',F'.jobs=F.jobs.set v.heldJob.toNat j'/\j'.added=true/\j'.B=(comB j.B v.heldTask v.attempt).1)->HI F':=(by rintro F' hw' ⟨j',hj',ha',hB'⟩;refine h.upd (x:=x.toNat) hw' ?_ (fun k=>by unfold Holds at k;dsimp only at k;omega) (fun _=>⟨rfl,rfl,rfl,rfl, .inl rfl⟩);refine h.others hj hj' (fun _=>ha') fun y u hy hu b0 hk j0=>?_;rw [hB'];have g0:u.heldTask≠v.heldTask:=(by intro k;have:=hF.w u (List.mem_of_getElem? hu);exact h.d _ _ v u hv hu hy hh b0 ⟨by have:=this.h;omega,k.symm⟩);exact com_held hW.ls c3 j0 g0)
   split
   ·rename_i hdone
    refine ⟨⟨?_,g2,g3⟩,hH _ s3 ⟨_,rfl,c2,rfl⟩⟩
    intro r
    show cnt (spillF _ x v.heldJob j.band (comB j.B v.heldTask v.attempt).2) r=(rdyJ (F.jobs.set v.heldJob.toNat _) r).toNat
    rw [g1 r,rdy_set k2.1 f0]
    show cnt F r+_=_
    rw [a0 r]
    by_cases e1:r.job=v.heldJob
    ·rw [if_pos e1,if_pos e1,if_neg (done_none (com_wf hW) (by rw [com_deps,hd];exact hdone) _)];rfl
    ·rw [if_neg e1,if_neg e1]
   ·refine ⟨⟨?_,g2,g3⟩,hH _ s3 ⟨_,s2,c2,rfl⟩⟩
    intro r
    rw [g1 r,s2,rdy_set k2.1 f0]
    show cnt F r+_=_
    rw [a0 r]
    by_cases e1:r.job=v.heldJob
    · exact (by rw [if_pos e1,if_pos e1];dsimp only;rw [toNat_dec,if_pos hrun])
    ·rw [if_neg e1,if_neg e1]
theorem inv_drop_r {F:FS} {x ph:Int} {s:Stt} (q:QI_r F) (h:HI F) (hp:ph=0\/ph=4):QI_r (clearF F x ph s)/\HI (clearF F x ph s):=by
  refine ⟨⟨q.c,q.q4,q.cap⟩,h.upd (x:=x.toNat) (v':=⟨ph,0,0,0,0,0,(arAt F x).high⟩) rfl h.same (fun k=>by unfold Holds at k;dsimp only at k;omega) (fun _=>⟨rfl,rfl,rfl,rfl,hp⟩)⟩
theorem QI_r.few {F:FS} {K:Int} (h:QI_r F) (hF:FW F K) {L:List Ref} (hL:∀r,L.count r<=cnt F r):L.length<=totS (shapeF F.jobs):=by
 rw [<-allR_len (k:=0)]
 apply len_le
 intro r
 have h3:=h.c r
 have h4:=hL r
 cases hr:rdyJ F.jobs r with
 |false=>rw [hr] at h3;simp at h3;omega
 |true=>
  rw [hr] at h3
  obtain ⟨h0,j,hj,a0,b0⟩:=rdy_some hr
  have hJ:=hF.j j (List.mem_of_getElem? hj)
  have ha:=hJ.r a0
  obtain ⟨hW,hd,_,_⟩:=hJ.b ha
  have hi:=stAt_in b0 (by decide)
  have hm:=allR_mem (k:=0) (t:=r.task) hj ha hi.1 (by rw [hW.ls,hd] at hi;exact hi.2)
  rw [show (⟨((0+r.job.toNat:Nat):Int),r.task⟩:Ref)=r by cases r;simp only at h0⊢;congr 1;omega] at hm
  have:=List.count_pos_iff.2 hm
  simp at h3;omega
theorem drain_cnt_r {jobs:List JS} (l:List Ref):∀{q:QS},q.bs.length=4->q.cap=512->totB q.bs+l.length<512->(∀r∈l,0<=(jobs.getD r.job.toNat default).band/\(jobs.getD r.job.toNat default).band<4)->
  (∀r,cQ (drainQ jobs q l).bs r=cQ q.bs r+l.count r)/\(drainQ jobs q l).bs.length=4/\(drainQ jobs q l).cap=512:=by
 induction l with
 |nil=>intro q h4 hc _ _;exact ⟨fun r=>by simp only [drainQ,List.foldl_nil,List.count_nil,Nat.add_zero],h4,hc⟩
 |cons t l ih=>
  intro q h4 hc ht hb
  simp only [List.length_cons] at ht
  have a0:=hb t List.mem_cons_self
  have h1:=fun r=>cQ_pushQ (a:=t) (r:=r) a0 h4 om
  have e:drainQ jobs q (t::l)=drainQ jobs (pushQ q t (jobs.getD t.job.toNat default).band) l:=by unfold drainQ;rw [List.foldl_cons];rfl
  rw [e]
  obtain ⟨b1,b2,b3⟩:=ih (q:=pushQ q t (jobs.getD t.job.toNat default).band) (h1 t).2.1 ((h1 t).2.2.1.trans hc) (by have:=(h1 t).2.2.2;omega) (fun r hr=>hb r (List.mem_cons_of_mem _ hr))
  refine ⟨?_,b2,b3⟩
  intro r
  rw [b1,(h1 r).1]
  have:List.count r (t::l)=List.count r [t]+List.count r l:=by rw [<-List.count_append];rfl
  rw [this,count1_];omega
theorem ready_cnt_r {x bd:Int} (hb:0<=bd/\bd<4) (l:List Int):∀{q:QS},q.bs.length=4->q.cap=512->totB q.bs+l.length<512->
  (∀r,cQ (readyQ x bd q l).bs r=cQ q.bs r+(l.map fun t=>(⟨x,t⟩:Ref)).count r)/\(readyQ x bd q l).bs.length=4/\(readyQ x bd q l).cap=512:=by
 induction l with
 |nil=>intro q h4 hc _;exact ⟨fun r=>by simp only [readyQ,List.foldl_nil,List.map_nil,List.count_nil,Nat.add_zero],h4,hc⟩
 |cons t l ih=>
  intro q h4 hc ht
  simp only [List.length_cons] at ht
  have h1:=fun r=>cQ_pushQ (a:=(⟨x,t⟩:Ref)) (r:=r) hb h4 om
  have e:readyQ x bd q (t::l)=readyQ x bd (pushQ q ⟨x,t⟩ bd) l:=by unfold readyQ;rw [List.foldl_cons]
  rw [e]
  obtain ⟨b1,b2,b3⟩:=ih (q:=pushQ q ⟨x,t⟩ bd) (h1 ⟨x,t⟩).2.1 ((h1 ⟨x,t⟩).2.2.1.trans hc) (by have:=(h1 ⟨x,t⟩).2.2.2;omega)
  refine ⟨?_,b2,b3⟩
  intro r
  rw [b1,(h1 r).1,List.map_cons]
  have:List.count r ((⟨x,t⟩:Ref)::l.map fun t=>(⟨x,t⟩:Ref))=List.count r [(⟨x,t⟩:Ref)]+List.count r (l.map fun t=>(⟨x,t⟩:Ref)):=by rw [<-List.count_append];rfl
  rw [this,count1_];omega
theorem inv_crash_r {F:FS} {K x:Int} {v:Wkr} (hF:FW F K) (q:QI_r F) (h:HI F) (h20:totS (shapeF F.jobs)<=20) (hx:0<=x/\x<(F.ws.length:Int)) (hv:F.ws[x.toNat]?=some v):
  QI_r (crashW (retJ F v) x)/\HI (crashW (retJ F v) x):=by
 have hd:=dq_some hF hx
 have i0:=q.cap
 have k0:totB F.q.bs+(dqAt F x).l.length<=20:=by
  have h1:=q.few hF (L:=F.q.bs.flatten++(dqAt F x).l) (fun r=>by
   rw [List.count_append,show F.q.bs.flatten.count r=cQ F.q.bs r from by rw [List.count_flatten];rfl]
   have:=cD_ge (r:=r) hd
   unfold cnt;omega)
  rw [List.length_append] at h1
  have h2:totB F.q.bs=(F.q.bs.flatten.length:Int):=by unfold totB;rw [List.length_flatten]
  omega
 have a0:∀r∈(dqAt F x).l,0<=(F.jobs.getD r.job.toNat default).band/\(F.jobs.getD r.job.toNat default).band<4:=(by intro r hr;obtain ⟨j,hj,_,_,_,b1,b2,_,_⟩:=hF.job (hF.dr x r hr);rw [getD_some hj];exact ⟨b1,b2⟩)
 cases hb:busyW F v with
 |false=>
  rw [retJ_no hb]
  obtain ⟨d1,d2,d3⟩:=drain_cnt_r (jobs:=F.jobs) (dqAt F x).l q.q4 q.cap om a0
  refine ⟨⟨?_,d2,d3⟩,h.upd (x:=x.toNat) (v':=⟨4,0,0,0,0,0,(arAt F x).high⟩) rfl h.same (fun k=>by unfold Holds at k;dsimp only at k;omega) (fun _=>⟨rfl,rfl,rfl,rfl, .inr rfl⟩)⟩
  intro r
  rw [<-show rdyJ F.jobs r=rdyJ (crashW F x).jobs r from rfl,<-q.c r]
  have h1:=cnt_dq (d':=⟨(dqAt F x).cap,[]⟩) (r:=r) hd
  have h2:=d1 r
  show cDq (F.dq.set x.toNat ⟨(dqAt F x).cap,[]⟩) r+cQ (drainQ F.jobs F.q (dqAt F x).l).bs r=cnt F r
  unfold cnt at h1⊢;simp only [List.count_nil] at h1;omega
 |true=>
  unfold busyW at hb
  obtain ⟨e0,d0⟩:=(Bool.and_eq_true _ _).mp hb
  have hh:Holds v:=(of_decide_eq_true e0:v.phase=1\/v.phase=2\/v.phase=3)
  have hw:=hF.w v (List.mem_of_getElem? hv)
  obtain ⟨j,hj,ha,hz⟩:=h.h _ v hv hh
  have c0:j.running=true:=by unfold jobAt at d0;rw [getD_some hj] at d0;exact d0
  have e:jobAt F v.heldJob=j:=getD_some hj
  have hJ:=hF.j j (List.mem_of_getElem? hj)
  obtain ⟨hW,o0,f0⟩:=hJ.b ha
  have eR:retJ F v={F with jobs:=F.jobs.set v.heldJob.toNat {j with B:=retB j.B v.heldTask v.attempt},q:=pushQ F.q ⟨v.heldJob,v.heldTask⟩ j.band}:=(by unfold retJ;rw [if_pos (by unfold busyW;rw [e0,d0];rfl),e])
  have h0:=heldC_zero hz
  have g0:=stAt_in h0.2.1 (by decide)
  have l0:=(List.getElem?_eq_some_iff.1 hj).1
  have k2:=hw.h
  have p:=fun r=>cQ_pushQ (a:=(⟨v.heldJob,v.heldTask⟩:Ref)) (r:=r) f0 q.q4 om
  have b0:∀r∈(dqAt F x).l,0<=((F.jobs.set v.heldJob.toNat {j with B:=retB j.B v.heldTask v.attempt}).getD r.job.toNat default).band/\((F.jobs.set v.heldJob.toNat {j with B:=retB j.B v.heldTask v.attempt}).getD r.job.toNat default).band<4:=by
   intro r hr
   by_cases e1:v.heldJob.toNat=r.job.toNat
   ·rw [<-e1,getD_some (set_at hj)];exact f0
   · exact (by have h1:=a0 r hr;rw [List.getD_eq_getElem?_getD] at h1⊢;rw [List.getElem?_set,if_neg e1];exact h1)
  obtain ⟨d1,d2,d3⟩:=drain_cnt_r (jobs:=F.jobs.set v.heldJob.toNat {j with B:=retB j.B v.heldTask v.attempt}) (dqAt F x).l (p ⟨0,0⟩).2.1 ((p ⟨0,0⟩).2.2.1.trans q.cap) (by have:=(p ⟨0,0⟩).2.2.2;omega) b0
  rw [eR]
  refine ⟨⟨?_,d2,d3⟩,h.upd (x:=x.toNat) (v':=⟨4,0,0,0,0,0,(arAt F x).high⟩) rfl ?_ (fun k=>by unfold Holds at k;dsimp only at k;omega) (fun _=>⟨rfl,rfl,rfl,rfl, .inr rfl⟩)⟩
  ·intro r
   show cDq (F.dq.set x.toNat ⟨(dqAt F x).cap,[]⟩) r+cQ (drainQ (F.jobs.set v.heldJob.toNat {j with B:=retB j.B v.heldTask v.attempt}) (pushQ F.q ⟨v.heldJob,v.heldTask⟩ j.band) (dqAt F x).l).bs r=(rdyJ (F.jobs.set v.heldJob.toNat {j with B:=retB j.B v.heldTask v.attempt}) r).toNat
   rw [rdy_set k2.1 l0]
   have h1:=cnt_dq (d':=⟨(dqAt F x).cap,[]⟩) (r:=r) hd
   have h2:=d1 r
   have h3:=(p r).1
   have h4:=q.c r
   unfold cnt at h1 h4;simp only [List.count_nil] at h1
   by_cases e1:r.job=v.heldJob
   ·rw [if_pos e1]
    dsimp only
    rw [toNat_dec,if_pos c0,show (retB j.B v.heldTask v.attempt).st=j.B.st.set v.heldTask.toNat 2 by rw [ret_eq hz]]
    rw [rdy_at om (by rw [e1];exact hj),toNat_dec,if_pos c0] at h4
    by_cases e2:r.task=v.heldTask
    · exact (by rw [e2,stAt_self g0,if_pos rfl];rw [e2,h0.2.1] at h4;have e3:eq1 ⟨v.heldJob,v.heldTask⟩ r=1:=(by unfold eq1;rw [if_pos (ref_ext e1.symm e2.symm)]);simp at h4;omega)
    · exact (by rw [stAt_other g0.1 e2];have e3:eq1 ⟨v.heldJob,v.heldTask⟩ r=0:=(by unfold eq1;rw [if_neg (fun k=>e2 (by rw [<-k]))]);omega)
   · exact (by rw [if_neg e1];have e3:eq1 ⟨v.heldJob,v.heldTask⟩ r=0:=(by unfold eq1;rw [if_neg (fun k=>e1 (by rw [<-k]))]);omega)
  ·exact h.others hj (j':={j with B:=retB j.B v.heldTask v.attempt}) rfl (fun h=>h) fun y u hy hu j0 hk n0=>(by have m0:u.heldTask≠v.heldTask:=(by intro k;have:=hF.w u (List.mem_of_getElem? hu);exact h.d _ _ v u hv hu hy hh j0 ⟨by have:=this.h;omega,k.symm⟩);exact ret_held hz n0 m0)
theorem inv_cancel_r {F:FS} {k:Int} {j:JS} (q:QI_r F) (h:HI F) (hk:0<=k) (hj:F.jobs[k.toNat]?=some j):QI_r (cancelW F k)/\HI (cancelW F k):=by
 have e:jobAt F k=j:=getD_some hj
 have hl:=(List.getElem?_eq_some_iff.1 hj).1
 refine ⟨⟨?_,by simp only [cancelW,List.length_map];exact q.q4,q.cap⟩,h.jb rfl ?_⟩
 ·intro r
  show cDq (F.dq.map (rmD k)) r+cQ (F.q.bs.map (without k)) r=(rdyJ (F.jobs.set k.toNat _) r).toNat
  rw [cD_rm,cQ_rm,rdy_set hk hl]
  by_cases e1:r.job=k
  ·rw [if_pos e1,if_pos e1,if_pos e1];rfl
  ·rw [if_neg e1,if_neg e1,if_neg e1];exact q.c r
 ·refine h.others hj (j':={j with running:=false}) (by unfold cancelW;rw [e]) (fun h=>h) (fun y v _ _ _ _ hz=>hz)
theorem inv_add_r {F:FS} {K x bd:Int} {l:List Task} {j:JS} (hF:FW F K) (q:QI_r F) (h:HI F) (h20:totS (shapeF F.jobs)<=20) (h5:l.length<=5) (hx:0<=x) (hb:0<=bd/\bd<4) (hj:F.jobs[x.toNat]?=some j) (ha:j.added=false):QI_r (addF F x l bd)/\HI (addF F x l bd):=by
 have hl:=(List.getElem?_eq_some_iff.1 hj).1
 have a0:=q.small hF
 have h3:=idx_le (y:=2) (s:=(newB l).st) (k:=0)
 have h4:(newB l).st.length=l.length:=by simp [newB]
 obtain ⟨r1,r2,r3⟩:=ready_cnt_r (x:=x) hb (idxOf 2 0 (newB l).st) q.q4 q.cap om
 refine ⟨⟨?_,r2,r3⟩,h.jb rfl ?_⟩
 ·intro r
  show cDq F.dq r+cQ (readyQ x bd F.q (idxOf 2 0 (newB l).st)).bs r=(rdyJ (F.jobs.set x.toNat (jobN l bd)) r).toNat
  rw [r1,rdy_set hx hl,cmap]
  have h6:=q.c r
  unfold cnt at h6
  by_cases e1:r.job=x
  ·rw [if_pos e1,if_pos e1,toNat_dec,if_pos (show (jobN l bd).running=true from rfl),count_two]
   have hr:j.running=false:=by
    cases hr:j.running with
    |false=>rfl
    |true=>have:=(hF.j j (List.mem_of_getElem? hj)).r hr;rw [ha] at this;cases this
   rw [rdy_at om (by rw [e1];exact hj),hr] at h6
   simp at h6
   show _=if stAt (newB l).st r.task=2 then 1 else 0
   omega
  ·rw [if_neg e1,if_neg e1];omega
 ·intro y v _ hy hv
  obtain ⟨j2,a1,a2,a3⟩:=h.h y v hy hv
  refine ⟨j2,?_,a2,a3⟩
  show (F.jobs.set x.toNat _)[_]?=_
  rw [List.getElem?_set,if_neg]
  ·exact a1
  ·intro k;rw [<-k,hj] at a1;obtain rfl:=Option.some.inj a1;rw [ha] at a2;cases a2
theorem inv_idle_r {F:FS} {x:Int} (q:QI_r F) (h:HI F):QI_r (idleF F x 0)/\HI (idleF F x 0):=
  ⟨⟨q.c,q.q4,q.cap⟩,h.upd (x:=x.toNat) (v':=⟨0,0,0,0,0,0,(F.ar.getD x.toNat default).high⟩) rfl h.same (fun k=>by unfold Holds at k;dsimp only at k;omega) (fun _=>⟨rfl,rfl,rfl,rfl, .inl rfl⟩)⟩
theorem inv_new_r {c:Cfg} (hc:c.tasks=512):QI_r (newF c)/\HI (newF c):=by
 refine ⟨⟨?_,rfl,hc⟩,⟨?_,?_,?_⟩⟩
 ·intro r
  have h1:rdyJ (newF c).jobs r=false:=(by unfold rdyJ newF;dsimp only;have:(List.replicate 64 JS.zero).getD r.job.toNat default=JS.zero:=(by rw [List.getD_eq_getElem?_getD,List.getElem?_replicate];split<;>rfl);rw [this];simp [JS.zero])
  rw [h1]
  have h2:cDq (newF c).dq r=0:=(by unfold cDq newF;simp)
  unfold cnt;rw [h2];simp [newF,cQ]
 · exact (by intro x v hv hh;obtain rfl:=rep_at hv;unfold Holds at hh;dsimp only at hh;omega)
 · exact (by intro x y v u hv _ _ hh;obtain rfl:=rep_at hv;unfold Holds at hh;dsimp only at hh;omega)
 · exact (by intro x v hv _;obtain rfl:=rep_at hv;exact ⟨rfl,rfl,rfl,rfl, .inl rfl⟩)
end Go.Proofs.YtkadmghedmodbaaGreat

namespace Go.Proofs.YtkadmghedmodbaaGreat
open Go Go.E Go.Proofs.Tryz
set_option linter.all false
set_option maxRecDepth 100000
set_option maxHeartbeats 2000000
variable {W w:World} {H:Chunk} {F:List Chunk}
def wkOf (v:Wkr):Wk:=⟨v.phase,v.heldJob,v.heldTask,v.attempt,v.row⟩
def rdyN (a:JA):Nat:=match a.B with
  |none=>0
  |some B=>(idxOf 2 0 B.st).length
def valA (a:JA):Int:=if runJ a=true then ((rdyN a:Nat):Int) else 0
def rsum (l:List JA):Int:=(l.map valA).sum
structure Rel (F:FS) (nj:Nat) (m:MS):Prop where
  wl:m.ws=F.ws.map wkOf
  jl:m.jobs.length=nj
  jb:∀k j,k<nj->F.jobs[k]?=some j->∃a,m.jobs[k]?=some a/\a.B=some j.B/\runJ a=j.running/\a.T.map Task.v=j.tasks
  rd:m.rd=rsum m.jobs
theorem rsum_set:∀{l:List JA} {k:Nat} {a a':JA},l[k]?=some a->rsum (l.set k a')+valA a=rsum l+valA a'
  |[],_,_,_,h=>by cases h
  |x::l,0,a,a',h=>by
    obtain rfl:x=a:=by simpa using h
    simp only [rsum,List.set_cons_zero,List.map_cons,List.sum_cons];omega
  |x::l,k+1,a,a',h=>by
    have ih:=rsum_set (l:=l) (k:=k) (a:=a) (a':=a') (by simpa using h)
    simp only [rsum,List.set_cons_succ,List.map_cons,List.sum_cons] at ih⊢;omega
theorem rsum_snoc {l:List JA} {a:JA}:rsum (l++[a])=rsum l+valA a:=by
  simp only [rsum,List.map_append,List.sum_append,List.map_cons,List.map_nil,List.sum_cons,List.sum_nil];omega
theorem len_count {A B C:List Int} (h:∀z,A.count z=B.count z+C.count z):A.length=B.length+C.length:=by
  rw [<-List.length_append]
  exact (List.perm_iff_count.2 (fun z=>by rw [List.count_append];exact h z)).length_eq
theorem count_one {t z:Int}:List.count z [t]=if t=z then 1 else 0:=by
  rw [List.count_cons,List.count_nil]
  by_cases h:t=z<;>simp [h]
theorem idx_start {B:BS} {t y:Int} (h:stAt B.st t=2) (hy:y≠2):(idxOf 2 0 B.st).length=(idxOf 2 0 (B.st.set t.toNat y)).length+1:=by
  have a0:=stAt_in h (by decide)
  rw [show (1:Nat)=[t].length from rfl]
  apply len_count
  intro z
  rw [count_two,count_two,count_one]
  by_cases e:z=t
  · subst e;rw [stAt_self a0,if_pos h,if_neg hy,if_pos rfl]
  · rw [stAt_other a0.1 e,if_neg (show ¬t=z from fun k=>e k.symm)];omega
theorem idx_ret {B:BS} {t:Int} (h:stAt B.st t=3):(idxOf 2 0 (B.st.set t.toNat 2)).length=(idxOf 2 0 B.st).length+1:=by
  have a0:=stAt_in h (by decide)
  rw [show (1:Nat)=[t].length from rfl]
  apply len_count
  intro z
  rw [count_two,count_two,count_one]
  by_cases e:z=t
  · subst e;rw [stAt_self a0,h,if_pos rfl,if_neg (by decide),if_pos rfl]
  · rw [stAt_other a0.1 e,if_neg (show ¬t=z from fun k=>e k.symm)];omega
theorem idx_com {B:BS} {i:Int} (hl:B.st.length=B.deps.length) (hi:stAt B.st i=3):(idxOf 2 0 (markB (B.st.set i.toNat 4) B.deps)).length=(idxOf 2 0 B.st).length+(rdyB (B.st.set i.toNat 4) B.deps).length:=by
  apply len_count
  intro z
  rw [count_two,count_two]
  exact com_two hl hi
theorem idx_nil {s:List Int} (h:∀z,stAt s z≠2):idxOf 2 0 s=[]:=by
  cases hs:idxOf 2 0 s with
  |nil=>rfl
  |cons z l=>
    have h1:=count_two (s:=s) (z:=z)
    rw [if_neg (h z),hs,List.count_cons_self] at h1
    omega
theorem Rel.wk {F:FS} {nj:Nat} {m:MS} (h:Rel F nj m) {k:Nat} {v:Wkr} (hv:F.ws[k]?=some v):m.ws[k]?=some (wkOf v):=by rw [h.wl,List.getElem?_map,hv];rfl
theorem Rel.len {F:FS} {nj:Nat} {m:MS} (h:Rel F nj m):m.ws.length=F.ws.length:=by rw [h.wl,List.length_map]
theorem runs_of {m:MS} {n:Int} {a:JA} (h0:0<=n) (ha:m.jobs[n.toNat]?=some a):runsM m.jobs n=runJ a:=by
  have hl:=(List.getElem?_eq_some_iff.1 ha).1
  unfold runsM;rw [decide_eq_true ⟨h0,by omega⟩,getD_some ha];rfl
theorem added_lt {c:Cfg} {F:FS} {nj:Nat} {K:Int} (h:RecI c F nj K) {k:Nat} {j:JS} (hj:F.jobs[k]?=some j) (ha:j.added=true):k<nj:=by
  apply Classical.byContradiction
  intro hn
  have hl:=(List.getElem?_eq_some_iff.1 hj).1
  rw [h.fw.jl] at hl
  obtain ⟨m,hm⟩:=h.s1 k (by omega) hl
  unfold shapeF at hm;rw [List.getElem?_map,hj] at hm
  have:=(Prod.mk.inj (Option.some.inj hm)).1
  rw [ha] at this;cases this
theorem busy_same {c:Cfg} {F:FS} {nj:Nat} {K:Int} {m:MS} (hI:RecI c F nj K) (hR:Rel F nj m) (hH:HI F) {k:Nat} {v:Wkr} (hv:F.ws[k]?=some v):busyM m.jobs (wkOf v)=busyW F v:=by
 unfold busyM busyW
 have hw:=hI.fw.w v (List.mem_of_getElem? hv)
 by_cases hh:Holds v
 · exact (by obtain ⟨j,hj,ha,hz⟩:=hH.h _ v hv hh;obtain ⟨a,a0,_,b0,_⟩:=hR.jb _ j (added_lt hI hj ha) hj;rw [decide_eq_true (show (wkOf v).phase≠0/\(wkOf v).phase≠4 by unfold Holds at hh;simp only [wkOf];omega),decide_eq_true (show v.phase=1\/v.phase=2\/v.phase=3 from hh),runs_of (n:=(wkOf v).heldJob) hw.h.1 a0,b0];unfold jobAt;rw [getD_some hj])
 · exact (by have hz:=hH.z _ v hv hh;rw [decide_eq_false (show ¬((wkOf v).phase≠0/\(wkOf v).phase≠4) by simp only [wkOf];omega),decide_eq_false (show ¬(v.phase=1\/v.phase=2\/v.phase=3) from hh)];rfl)
theorem Rel.upd {F F':FS} {nj:Nat} {m:MS} (h:Rel F nj m) {k:Nat} {v:Wkr} (hw:F'.ws=F.ws.set k v) (hj:F'.jobs=F.jobs):Rel F' nj {m with ws:=m.ws.set k (wkOf v)}:=
  ⟨by rw [hw,List.map_set,h.wl],h.jl,by rw [hj];exact h.jb,h.rd⟩
theorem Rel.updj {F F':FS} {nj:Nat} {m:MS} (h:Rel F nj m) {k n:Nat} {v:Wkr} {j j':JS} {a a':JA} {r:Int} (hw:F'.ws=F.ws.set k v) (hj:F'.jobs=F.jobs.set n j') (ha:m.jobs[n]?=some a) (h1:a'.B=some j'.B) (h2:runJ a'=j'.running) (h3:a'.T.map Task.v=j'.tasks) (hr:r=m.rd+valA a'-valA a):
  Rel F' nj ⟨m.ws.set k (wkOf v),m.jobs.set n a',r⟩:=by
 refine ⟨by rw [hw,List.map_set,h.wl],by simp only [List.length_set];exact h.jl,?_,?_⟩
 ·intro i y hi hy
  rw [hj] at hy
  have hl:=(List.getElem?_eq_some_iff.1 ha).1
  rcases set_at' hy with ⟨e,rfl⟩|⟨e,hy⟩
  ·subst e;exact ⟨a',set_at ha,h1,h2,h3⟩
  · exact (by obtain ⟨b,b1,b2⟩:=h.jb i y hi hy;exact ⟨b,by dsimp only;rw [List.getElem?_set,if_neg e];exact b1,b2⟩)
 · exact (by have:=rsum_set (a':=a') ha;have h4:=h.rd;dsimp only;omega)
section
variable {c:Cfg} {F:FS} {nj:Nat} {K:Int} {m:MS} {off:List TL}
theorem sim_take (hI:RecI c F nj K) (hR:Rel F nj m) {k:Nat} {v:Wkr} {r0:Ref} {j:JS} (hv:F.ws[k]?=some v) (hp:v.phase=0) (hj:F.jobs[r0.job.toNat]?=some j) (h0:0<=r0.job) (hrun:j.running=true) (ha:j.added=true) (hst:stAt j.B.st r0.task=2) (hW:BWf j.B K)
  {F':FS} {hh:Int} (hw:F'.ws=F.ws.set k ⟨1,r0.job,r0.task,j.B.att.getD r0.task.toNat 0,0,0,hh⟩) (hjs:F'.jobs=F.jobs.set r0.job.toNat {j with B:=⟨j.B.deps,j.B.st.set r0.task.toNat 3,j.B.att⟩}):
  ∃m',takeM m k (wkOf v) r0=some m'/\Rel F' nj m':=by
 obtain ⟨a,a1,a2,a3,a4⟩:=hR.jb _ j (added_lt hI hj ha) hj
 have hs:=start_eq hW.ls hst
 have c0:doneOf (⟨j.B.deps,j.B.st.set r0.task.toNat 3,j.B.att⟩:BS)=doneOf j.B:=(by have d0:=stAt_in hst (by decide);have h1:=count_set (s:=j.B.st) (k:=r0.task.toNat) (y:=3) om;rw [stAt_nat _ d0.1] at hst;unfold doneOf;rw [if_neg om,if_neg (by decide)] at h1;dsimp only;omega)
 have a0:=a3
 rw [hrun] at a0
 unfold runJ at a0
 rw [a2] at a0
 obtain ⟨e0,f0⟩:=(Bool.and_eq_true _ _).mp a0
 have b0:runJ {a with B:=some ⟨j.B.deps,j.B.st.set r0.task.toNat 3,j.B.att⟩}=true:=(by unfold runJ;dsimp only;rw [e0,c0];exact f0)
 refine ⟨_,?_,hR.updj (j:=j) (j':={j with B:=⟨j.B.deps,j.B.st.set r0.task.toNat 3,j.B.att⟩}) (a:=a) (a':={a with B:=some ⟨j.B.deps,j.B.st.set r0.task.toNat 3,j.B.att⟩}) (r:=m.rd-1) hw hjs a1 rfl (b0.trans hrun.symm) a4 ?_⟩
 · exact (by unfold takeM;rw [if_neg (not_not_intro ⟨hp,by rw [runs_of h0 a1,a3];exact hrun⟩),jobA_at a1,a2];dsimp only;rw [hs];dsimp only;rw [if_neg (not_not_intro rfl)];rfl)
 · exact (by have h1:=idx_start hst (y:=3) (by decide);unfold valA;rw [if_pos b0,if_pos (a3.trans hrun)];unfold rdyN;rw [a2];dsimp only;omega)
theorem v_at {T:List Task} {ts:List TaskV} {i:Nat} (h:T.map Task.v=ts) (hi:i<ts.length):(T.getD i default).rows=(ts.getD i default).rows:=by
  subst h
  rw [List.length_map] at hi
  rw [List.getD_eq_getElem?_getD,List.getD_eq_getElem?_getD,List.getElem?_map,List.getElem?_eq_getElem hi];rfl
theorem row_phase {r R1 R2:Int} (h:R1=R2):(if r=R1 then (3:Int) else 2)=if r=R2 then 3 else 2:=by rw [h]
theorem sim_micro (hI:RecI c F nj K) (hR:Rel F nj m) (hH:HI F) {x:Int} {v:Wkr} {j:JS} (hx:0<=x/\x<(F.ws.length:Int)) (hv:F.ws[x.toNat]?=some v) (hh:Holds v) (hj:F.jobs[v.heldJob.toNat]?=some j) (hrun:j.running=true):
  ∃m',(∀l,eventM off m (microF F x).2 l=some m')/\Rel (microF F x).1 nj m'/\((microF F x).2.kind=6\/(microF F x).2.kind=7\/(microF F x).2.kind=8)/\(microF F x).2.worker=x:=by
 obtain ⟨j2,c1,c2,c3⟩:=hH.h _ v hv hh
 rw [hj] at c1;obtain rfl:=Option.some.inj c1
 obtain ⟨a,a1,a2,a3,a4⟩:=hR.jb _ j (added_lt hI hj c2) hj
 have hw:=hI.fw.w v (List.mem_of_getElem? hv)
 have hJ:=hI.fw.j j (List.mem_of_getElem? hj)
 obtain ⟨hW,hd,hb⟩:=hJ.b c2
 have e:jobAt F v.heldJob=j:=getD_some hj
 have hz:=heldC_zero c3
 have a0:busyM m.jobs (wkOf v)=true:=(by rw [busy_same hI hR hH hv];unfold busyW;rw [decide_eq_true (show v.phase=1\/v.phase=2\/v.phase=3 from hh),e,hrun];rfl)
 have g0:=hR.wk hv
 have n0:=hR.len
 unfold microF
 simp only [getD_some hv,e]
 by_cases p1:v.phase=1
 · exact (by rw [if_pos p1];refine ⟨_,?_,hR.upd (k:=x.toNat) (v:={v with phase:=2,used:=_,high:=_}) rfl rfl, .inl rfl,rfl⟩;intro l;rw [ev_in (v:=wkOf v) (by simp [namedE,evt]) (by simp only [evt];omega) g0,evK_6 (.inl rfl),if_pos a0];unfold microM;rw [show jobA m (wkOf v).heldJob=a from jobA_at a1,a2];dsimp only;rw [if_pos ⟨rfl,p1⟩];rfl)
 ·rw [if_neg p1]
  by_cases p2:v.phase=2
  · exact (by rw [if_pos p2];refine ⟨_,?_,hR.upd (k:=x.toNat) (v:={v with phase:=if v.row+1=(j.tasks.getD v.heldTask.toNat default).rows then 3 else 2,row:=v.row+1}) rfl rfl, .inr (.inl rfl),rfl⟩;intro l;rw [ev_in (v:=wkOf v) (by simp [namedE,evt]) (by simp only [evt];omega) g0,evK_6 (.inr (.inl rfl)),if_pos a0];unfold microM;rw [show jobA m (wkOf v).heldJob=a from jobA_at a1,a2];dsimp only;rw [if_neg (by simp [evt]),if_pos ⟨rfl,p2⟩];have hi:v.heldTask.toNat<j.tasks.length:=(by have:=hz.1;unfold inB at this;omega);exact congrArg (fun p=>some (⟨m.ws.set x.toNat ⟨p,v.heldJob,v.heldTask,v.attempt,v.row+1⟩,m.jobs,m.rd⟩:MS)) (row_phase (v_at a4 hi)))
  ·rw [if_neg p2]
   have p3:v.phase=3:=by unfold Holds at hh;omega
   have j0:∀F':FS,F'.ws=F.ws.set x.toNat ⟨0,0,0,0,0,0,(relA (F.ar.getD x.toNat default)).high⟩->(∃j',F'.jobs=F.jobs.set v.heldJob.toNat j'/\j'.B=(comB j.B v.heldTask v.attempt).1/\j'.tasks=j.tasks/\j'.running=decide (doneOf (comB j.B v.heldTask v.attempt).1<(j.tasks.length:Int)))->
     ∃m',(∀l,eventM off m ⟨8,x,0,0,v.heldJob,v.heldTask,0⟩ l=some m')/\Rel F' nj m':=by
    rintro F' r0 ⟨j',m0,k0,q0,i0⟩
    have d0:=a3
    rw [hrun] at d0
    unfold runJ at d0
    rw [a2] at d0
    obtain ⟨s0,_⟩:=(Bool.and_eq_true _ _).mp d0
    have h0:=com_deps (B:=j.B) (i:=v.heldTask) (a:=v.attempt)
    have f0:runJ {a with B:=some (comB j.B v.heldTask v.attempt).1}=j'.running:=(by unfold runJ;dsimp only;rw [s0,i0,h0,hd];rfl)
    refine ⟨_,?_,hR.updj (j:=j) (j':=j') (a:=a) (a':={a with B:=some (comB j.B v.heldTask v.attempt).1}) (r:=m.rd+(((comB j.B v.heldTask v.attempt).2.length:Nat):Int)) r0 m0 a1 (by rw [k0]) f0 (by rw [q0];exact a4) ?_⟩
    · exact (by intro l;rw [ev_in (v:=wkOf v) (by simp [namedE]) (by dsimp only;omega) g0,evK_6 (.inr (.inr rfl)),if_pos a0];unfold microM;rw [show jobA m (wkOf v).heldJob=a from jobA_at a1,a2];dsimp only;rw [if_neg (fun h=>absurd h.1 (by decide)),if_neg (fun h=>absurd h.1 (by decide)),if_pos ⟨rfl,p3,rfl,rfl⟩,if_neg (not_not_intro (show heldC j.B (wkOf v).heldTask (wkOf v).attempt=0 from c3))];rfl)
    ·have h1:=idx_com hW.ls hz.2.1
     unfold valA
     rw [if_pos (a3.trans hrun)]
     have c0:=com_eq c3
     by_cases e0:j'.running=true
     · exact (by rw [if_pos (f0.trans e0)];unfold rdyN;rw [a2];dsimp only;rw [c0];dsimp only;omega)
     · exact (by rw [if_neg (by rw [f0];exact e0)];have l0:doneOf (comB j.B v.heldTask v.attempt).1=(((comB j.B v.heldTask v.attempt).1.deps.length:Nat):Int):=(by have h2:=done_le (B:=(comB j.B v.heldTask v.attempt).1) (com_wf hW).ls;rw [i0] at e0;have h3:=of_decide_eq_false (Bool.eq_false_iff.2 e0);rw [h0] at h2⊢;omega);have h4:=idx_nil (done_none (com_wf hW) l0);unfold rdyN;rw [a2];dsimp only;rw [c0] at h4⊢;dsimp only at h4⊢;rw [h4] at h1;simp only [List.length_nil] at h1;omega)
   have t0:=com_len (B:=j.B) (i:=v.heldTask) (a:=v.attempt)
   have b0:∀F1:FS,(spillF F1 x v.heldJob j.band (comB j.B v.heldTask v.attempt).2).ws=F1.ws/\(spillF F1 x v.heldJob j.band (comB j.B v.heldTask v.attempt).2).jobs=F1.jobs:=by
    intro F1
    generalize (comB j.B v.heldTask v.attempt).2=l
    induction l generalizing F1 with
    |nil=>exact ⟨rfl,rfl⟩
    |cons t l ih=>
     have p0:spillF F1 x v.heldJob j.band (t::l)=spillF (spill1 F1 x ⟨v.heldJob,t⟩ j.band) x v.heldJob j.band l:=by unfold spillF;rw [List.foldl_cons]
     rw [p0]
     have h1:=ih (spill1 F1 x ⟨v.heldJob,t⟩ j.band)
     have h2:(spill1 F1 x ⟨v.heldJob,t⟩ j.band).ws=F1.ws/\(spill1 F1 x ⟨v.heldJob,t⟩ j.band).jobs=F1.jobs:=by unfold spill1;split<;>exact ⟨rfl,rfl⟩
     exact ⟨h1.1.trans h2.1,h1.2.trans h2.2⟩
   split
   · exact (by rename_i hdone;obtain ⟨m',g1,g2⟩:=j0 {spillF ⟨F.cfg,F.ws.set x.toNat ⟨0,0,0,0,0,0,(relA (F.ar.getD x.toNat default)).high⟩,F.ar.set x.toNat (relA (F.ar.getD x.toNat default)),F.dq,F.q,F.jobs.set v.heldJob.toNat {j with B:=(comB j.B v.heldTask v.attempt).1},{F.st with commits:=F.st.commits+1}⟩ x v.heldJob j.band (comB j.B v.heldTask v.attempt).2 with jobs:=F.jobs.set v.heldJob.toNat {j with B:=(comB j.B v.heldTask v.attempt).1,running:=false}} (b0 _).1 ⟨_,rfl,rfl,rfl,(decide_eq_false om).symm⟩;exact ⟨m',g1,g2, .inr (.inr rfl),rfl⟩)
   · exact (by rename_i hdone;have o0:doneOf (comB j.B v.heldTask v.attempt).1<(j.tasks.length:Int):=(by have h2:=done_le (B:=(comB j.B v.heldTask v.attempt).1) (com_wf hW).ls;rw [com_deps,hd] at h2;omega);obtain ⟨m',g1,g2⟩:=j0 (spillF ⟨F.cfg,F.ws.set x.toNat ⟨0,0,0,0,0,0,(relA (F.ar.getD x.toNat default)).high⟩,F.ar.set x.toNat (relA (F.ar.getD x.toNat default)),F.dq,F.q,F.jobs.set v.heldJob.toNat {j with B:=(comB j.B v.heldTask v.attempt).1},{F.st with commits:=F.st.commits+1}⟩ x v.heldJob j.band (comB j.B v.heldTask v.attempt).2) (b0 _).1 ⟨_,(b0 _).2,rfl,rfl,by dsimp only;rw [hrun];exact (decide_eq_true o0).symm⟩;exact ⟨m',g1,g2, .inr (.inr rfl),rfl⟩)
end
theorem choice_onto {n c d:Int} (hn:0<n) (hd:0<=d/\d<n):∃i:Nat,(i:Int)<n/\choiceI n c (i:Int)=d:=by
 have h1:-n<c.tmod n:=Int.lt_tmod_of_pos _ hn
 have h2:c.tmod n<n:=Int.tmod_lt_of_pos _ hn
 unfold choiceI
 generalize hb:(if c.tmod n<0 then c.tmod n+n else c.tmod n)=b
 have a0:0<=b/\b<n:=by rw [<-hb];split<;>omega
 by_cases h:b<=d
 ·exact ⟨(d-b).toNat,om,(by rw [show b+(((d-b).toNat:Nat):Int)=d by omega];exact Int.tmod_eq_of_lt hd.1 hd.2)⟩
 ·exact ⟨(d-b+n).toNat,om,(by rw [show b+(((d-b+n).toNat:Nat):Int)=d+n by omega,Int.tmod_eq_emod_of_nonneg om,Int.add_emod_right,Int.emod_eq_of_lt hd.1 hd.2])⟩
theorem first_none {p:Nat->Bool}:∀{n i:Nat},firstI p n i=none->∀k,i<=k->k<i+n->p k=false
  |0,i,_,k,h1,h2=>by omega
  |n+1,i,h,k,h1,h2=>by
    unfold firstI at h
    split at h
    · cases h
    · rename_i hp
      by_cases e:k=i
      · subst e;exact Bool.eq_false_iff.2 hp
      · exact first_none h k (by omega) (by omega)
theorem cD_zero {r:Ref}:∀{l:List DS},(∀d∈l,d.l=[])->cDq l r=0
  |[],_=>rfl
  |d::l,h=>by
    have ih:=cD_zero (r:=r) (l:=l) (fun x hx=>h x (List.mem_cons_of_mem _ hx))
    simp only [cDq,List.map_cons,List.sum_cons,h d List.mem_cons_self,List.count_nil] at ih⊢;omega
theorem acq_zero {F:FS} {K x c:Int} (hF:FW F K) (h:acqF F x c=none):∀r,cnt F r=0:=by
 unfold acqF at h
 split at h
 ·cases h
 ·split at h
  ·cases h
  ·rename_i hq
   unfold stealF at h
   have a0:∀d∈F.dq,d.l=[]:=by
    split at h
    ·rename_i hf
     intro d hd
     obtain ⟨k,hk⟩:=List.getElem?_of_mem hd
     have hl:=(List.getElem?_eq_some_iff.1 hk).1
     rw [hF.dl] at hl
     obtain ⟨i,hi,hc⟩:=choice_onto (n:=(F.ws.length:Int)) (c:=c) (d:=(k:Int)) (by have:=hF.n;omega) ⟨om,om⟩
     have h1:=first_none hf i (Nat.zero_le _) om
     unfold canSteal dqAt chF at h1
     rw [hc,Int.toNat_natCast,getD_some hk] at h1
     cases hdl:d.l with
     |nil=>rfl
     |cons y l=>rw [hdl] at h1;cases h1
    ·rename_i i hf
     have h1:=(first_some hf).2.2
     split at h
     · exact (by rename_i hn;unfold canSteal at h1;rw [List.head?_eq_none_iff.1 hn] at h1;cases h1)
     ·cases h
   intro r
   unfold cnt;rw [cD_zero a0,cQ_none hq]
theorem rsum_zero:∀{l:List JA},(∀a∈l,valA a=0)->rsum l=0
  |[],_=>rfl
  |a::l,h=>by
    have ih:=rsum_zero (l:=l) (fun x hx=>h x (List.mem_cons_of_mem _ hx))
    have h1:=h a List.mem_cons_self
    simp only [rsum,List.map_cons,List.sum_cons] at ih⊢;omega
section
variable {c:Cfg} {F:FS} {nj:Nat} {K:Int} {m:MS} {off:List TL}
theorem rd_zero (hI:RecI c F nj K) (hR:Rel F nj m) (hQ:QI_r F) (h:∀r,cnt F r=0):m.rd=0:=by
 rw [hR.rd]
 apply rsum_zero
 intro a ha
 obtain ⟨k,hk⟩:=List.getElem?_of_mem ha
 have hl:=(List.getElem?_eq_some_iff.1 hk).1
 rw [hR.jl] at hl
 have h4:=hI.n4
 obtain ⟨j,hj⟩:=at_some hI.fw.jl (k:=k) om
 obtain ⟨b,b1,b2,b3,_⟩:=hR.jb k j hl hj
 rw [hk] at b1;obtain rfl:=Option.some.inj b1
 unfold valA
 split
 ·rename_i hrun
  rw [b3] at hrun
  have hn:=idx_nil (s:=j.B.st) (fun z hz=>by
   have h1:=hQ.c ⟨(k:Int),z⟩
   rw [h,rdy_at (r:=⟨(k:Int),z⟩) (by simp) (by simpa using hj),hrun,decide_eq_true hz] at h1
   cases h1)
  unfold rdyN;rw [b2];dsimp only;rw [hn];rfl
 ·rfl
theorem one_step {e:Evt} {m':MS} (h:eventM off m e []=some m'):stepAll off m [e]=some m':=by simp only [stepAll,h]
theorem sim_step (hI:RecI c F nj K) (hK:K+1<=4000) (hR:Rel F nj m) (hQ:QI_r F) (hH:HI F) (h5:∀j∈F.jobs,j.tasks.length<=5) {x y:Int}:
  ∃m',stepAll off m (stepF F x y).2.1=some m'/\Rel (stepF F x y).1 nj m'/\QI_r (stepF F x y).1/\HI (stepF F x y).1:=by
 have h0:totS (shapeF F.jobs)<=20:=by have:=hI.s2;have:=hI.n4;omega
 have p0:=hR.len
 unfold stepF
 split
 ·exact ⟨m,rfl,hR,hQ,hH⟩
 ·rename_i hx
  have hx:=Classical.not_not.1 hx
  have hv:=hI.fw.wmem hx
  generalize wAt F x=v at hv
  have c0:=hR.wk hv
  split
  ·exact ⟨m,rfl,hR,hQ,hH⟩
  ·rename_i hp4
   split
   ·rename_i hh
    have hh:Holds v:=hh
    obtain ⟨j,hj,ha,hz⟩:=hH.h _ v hv hh
    have e:jobAt F v.heldJob=j:=getD_some hj
    split
    · exact (by rename_i a0;rw [e] at a0;obtain ⟨m',g1,g2,_,_⟩:=sim_micro (off:=off) hI hR hH hx hv hh hj a0;obtain ⟨i1,i2⟩:=inv_micro_r hI.fw om hQ hH h0 (h5 j (List.mem_of_getElem? hj)) hx hv hh hj a0;exact ⟨m',one_step (g1 []),g2,i1,i2⟩)
    · exact (by rename_i a0;rw [e] at a0;obtain ⟨a,a1,a2,a3,_⟩:=hR.jb _ j (added_lt hI hj ha) hj;obtain ⟨hW,hd,_⟩:=(hI.fw.j j (List.mem_of_getElem? hj)).b ha;have t0:a.x=true:=(by have h1:runJ a=false:=(by rw [a3];exact Bool.eq_false_iff.2 a0);unfold runJ at h1;rw [a2] at h1;dsimp only at h1;rw [decide_eq_true (held_lt hW hz)] at h1;simpa using h1);obtain ⟨i1,i2⟩:=inv_drop_r (x:=x) (ph:=0) (s:={F.st with drops:=F.st.drops+1}) hQ hH (.inl rfl);exact ⟨_,one_step (by rw [ev_in (v:=wkOf v) (by simp [namedE]) (by dsimp only;omega) c0,evK_9 rfl];unfold dropM;rw [if_pos ⟨by unfold Holds at hh;simp only [wkOf];omega,rfl,rfl,by rw [show jobA m v.heldJob=a from jobA_at a1];exact t0⟩];rfl),hR.upd (F':=dropF F x) (k:=x.toNat) (v:=⟨0,0,0,0,0,0,(arAt F x).high⟩) rfl rfl,i1,i2⟩)
   ·rename_i hh
    have hz:=hH.z _ v hv hh
    have g0:v.phase=0:=by have:=hz.2.2.2.2;omega
    have q0:∀u,F.ws[x.toNat]?=some u->¬Holds u:=by intro u hu;rw [hv] at hu;obtain rfl:=Option.some.inj hu;exact hh
    unfold restF
    split
    ·rename_i q hq
     obtain ⟨i1,i2,r0,j,j1,j2,j3,j4,j5,j6,⟨hi,j7⟩,j8,j9⟩:=inv_acq_r (ev:=q.2) (F':=q.1) hI.fw hQ hH hx q0 hq
     obtain ⟨m',t1,t2⟩:=sim_take hI hR hv g0 j1 j2 j3 j4 j5 j6 j7 j8
     refine ⟨m',one_step ?_,t2,i1,i2⟩
     rcases j9 with e|e|⟨f,f1,f2,f3,e⟩
     ·rw [e,ev_in (v:=wkOf v) (by simp [namedE]) (by dsimp only;omega) c0,evK_3 (.inl rfl)];exact t1
     ·rw [e,ev_in (v:=wkOf v) (by simp [namedE]) (by dsimp only;omega) c0,evK_3 (.inr rfl)];exact t1
     ·rw [e,ev_in (v:=wkOf v) (by simp [namedE]) (by dsimp only;omega) c0,evK_5 rfl,if_pos (by unfold anotherE;exact decide_eq_true ⟨f1,by dsimp only;omega,f3⟩)];exact t1
    ·rename_i hq
     have s0:=rd_zero hI hR hQ (acq_zero hI.fw hq)
     split
     ·rename_i i hi
      have h2:=(first_some hi).2.2
      unfold canHelp at h2
      obtain ⟨h3,h4⟩:=(Bool.and_eq_true _ _).mp h2
      have h3:=of_decide_eq_true h3
      have hb:=chF_bd (F:=F) (c:=y) (i:=i) hI.fw.n.1
      have hu:=hI.fw.wmem hb
      generalize hwf:wAt F (chF F y i)=u at hu h4
      have n0:=(busy_same hI hR hH hu).trans h4
      unfold busyW at h4
      obtain ⟨h6,h7⟩:=(Bool.and_eq_true _ _).mp h4
      have f0:Holds u:=(of_decide_eq_true h6:u.phase=1\/u.phase=2\/u.phase=3)
      obtain ⟨j,hj,ha,w0⟩:=hH.h _ u hu f0
      have a0:j.running=true:=by unfold jobAt at h7;rw [getD_some hj] at h7;exact h7
      have j0:RecI c (helpF F) nj (K+1):=⟨(hI.fw.mono om om).ss,by
       obtain ⟨_,_,_,_,_,_,_⟩:=hI.st
       constructor<;>(simp only [helpF];omega),hI.cf,hI.ws,hI.s1,hI.s2,hI.n4⟩
      have m0:Rel (helpF F) nj m:=⟨hR.wl,hR.jl,hR.jb,hR.rd⟩
      have i0:HI (helpF F):=⟨hH.h,hH.d,hH.z⟩
      have l0:QI_r (helpF F):=⟨hQ.c,hQ.q4,hQ.cap⟩
      obtain ⟨m',g1,g2,g3,g4⟩:=sim_micro (off:=off) (x:=chF F y i) j0 m0 i0 hb hu f0 hj a0
      obtain ⟨i1,i2⟩:=inv_micro_r (x:=chF F y i) j0.fw om l0 i0 h0 (h5 j (List.mem_of_getElem? hj)) hb hu f0 hj a0
      refine ⟨m',?_,g2,i1,i2⟩
      have d0:eventM off m ⟨12,x,chF F y i,0,0,0,0⟩ [(microF (helpF F) (chF F y i)).2]=some m:=(by rw [ev_in (v:=wkOf v) (by simp [namedE]) (by dsimp only;omega) c0,evK_12 rfl,if_pos];refine ⟨by unfold anotherE;exact decide_eq_true ⟨hb.1,by dsimp only;omega,h3⟩,?_⟩;unfold helpM;rw [decide_eq_true (show (wkOf v).phase=0 from g0),getD_some (hR.wk hu),n0,decide_eq_true (show ¬m.rd>0 by omega)];dsimp only [List.head?_cons];rw [decide_eq_true ⟨g3,g4⟩];rfl)
      simp only [stepAll,d0,g1 []]
     ·rename_i hi
      have b0:¬m.ws.any (busyM m.jobs)=true:=by
       intro b0
       obtain ⟨u',k0,e0⟩:=List.any_eq_true.1 b0
       rw [hR.wl] at k0
       obtain ⟨u,hu,rfl⟩:=List.mem_map.1 k0
       obtain ⟨k,hk⟩:=List.getElem?_of_mem hu
       have v0:=(List.getElem?_eq_some_iff.1 hk).1
       rw [busy_same hI hR hH hk] at e0
       by_cases o0:(k:Int)=x
       · exact (by have:k=x.toNat:=(by omega);rw [this,hv] at hk;obtain rfl:=Option.some.inj hk;unfold busyW at e0;exact hh (of_decide_eq_true ((Bool.and_eq_true _ _).mp e0).1))
       ·obtain ⟨i,u0,hc⟩:=choice_onto (n:=(F.ws.length:Int)) (c:=y) (d:=(k:Int)) (by have:=hI.fw.n;omega) ⟨om,om⟩
        have h1:=first_none hi i (Nat.zero_le _) om
        unfold canHelp wAt chF at h1
        rw [hc,Int.toNat_natCast,getD_some hk,e0,decide_eq_true o0] at h1
        cases h1
      exact ⟨m,one_step (by rw [show evt 13 x=⟨13,x,0,0,0,0,0⟩ from rfl,ev_in (v:=wkOf v) (by simp [namedE]) (by dsimp only;omega) c0,evK_13 rfl,if_pos ⟨g0,s0,b0⟩]),hR,hQ,hH⟩
theorem sim_crash (hI:RecI c F nj K) (hR:Rel F nj m) (hQ:QI_r F) (hH:HI F) {x:Int}:
  ∃m',stepAll off m (crashF F x).2.1=some m'/\Rel (crashF F x).1 nj m'/\QI_r (crashF F x).1/\HI (crashF F x).1:=by
 have j0:totS (shapeF F.jobs)<=20:=by have:=hI.s2;have:=hI.n4;omega
 have n0:=hR.len
 unfold crashF
 split
 ·exact ⟨m,rfl,hR,hQ,hH⟩
 ·rename_i hx
  have hx:=Classical.not_not.1 hx
  have hv:=hI.fw.wmem hx
  generalize wAt F x=v at hv
  have o0:=hR.wk hv
  split
  ·exact ⟨m,rfl,hR,hQ,hH⟩
  ·rename_i hp4
   obtain ⟨i1,i2⟩:=inv_crash_r hI.fw hQ hH j0 hx hv
   have f0:=busy_same hI hR hH hv
   have g0:eventM off m ⟨10,x,0,0,v.heldJob,v.heldTask,0⟩ []=crashM m x.toNat (wkOf v) ⟨v.heldJob,v.heldTask⟩:=(by rw [ev_in (v:=wkOf v) (by simp [namedE]) (by dsimp only;omega) o0,evK_10 rfl])
   cases hb:busyW F v with
   |false=>
    rw [retJ_no hb] at i1 i2⊢
    exact ⟨_,one_step (g0.trans (by unfold crashM;rw [if_neg (fun h=>h.elim hp4 (fun h=>h ⟨rfl,rfl⟩)),if_neg (by rw [f0,hb];decide)];rfl)),hR.upd (F':=crashW F x) (k:=x.toNat) (v:=⟨4,0,0,0,0,0,(arAt F x).high⟩) rfl rfl,i1,i2⟩
   |true=>
    have d0:=hb
    unfold busyW at hb
    obtain ⟨k0,e0⟩:=(Bool.and_eq_true _ _).mp hb
    have hh:Holds v:=(of_decide_eq_true k0:v.phase=1\/v.phase=2\/v.phase=3)
    obtain ⟨j,hj,ha,hz⟩:=hH.h _ v hv hh
    have e:jobAt F v.heldJob=j:=getD_some hj
    have a0:j.running=true:=by rw [e] at e0;exact e0
    obtain ⟨a,a1,a2,a3,a4⟩:=hR.jb _ j (added_lt hI hj ha) hj
    have c0:=heldC_zero hz
    have m0:=stAt_in c0.2.1 (by decide)
    have i0:=ret_eq hz
    have l0:doneOf (retB j.B v.heldTask v.attempt)=doneOf j.B:=(by have h1:=count_set (s:=j.B.st) (k:=v.heldTask.toNat) (y:=2) om;have h2:=c0.2.1;rw [stAt_nat _ m0.1] at h2;rw [i0];unfold doneOf;rw [if_neg om,if_neg (by decide)] at h1;dsimp only;omega)
    have b0:=a3
    rw [a0] at b0
    unfold runJ at b0
    rw [a2] at b0
    obtain ⟨p0,q0⟩:=(Bool.and_eq_true _ _).mp b0
    have h0:runJ {a with B:=some (retB j.B v.heldTask v.attempt)}=true:=(by unfold runJ;dsimp only;rw [p0,l0,ret_deps];exact q0)
    have eR:retJ F v={F with jobs:=F.jobs.set v.heldJob.toNat {j with B:=retB j.B v.heldTask v.attempt},q:=pushQ F.q ⟨v.heldJob,v.heldTask⟩ j.band}:=(by unfold retJ;rw [if_pos d0,e])
    refine ⟨_,one_step (g0.trans ?_),hR.updj (F':=crashW (retJ F v) x) (k:=x.toNat) (v:=⟨4,0,0,0,0,0,(arAt F x).high⟩) (j:=j) (j':={j with B:=retB j.B v.heldTask v.attempt}) (a:=a) (a':={a with B:=some (retB j.B v.heldTask v.attempt)}) (r:=m.rd+1) (by rw [eR];rfl) (by rw [eR];rfl) a1 rfl (h0.trans a0.symm) a4 ?_,i1,i2⟩
    · exact (by unfold crashM;rw [if_neg (fun h=>h.elim hp4 (fun h=>h ⟨rfl,rfl⟩)),if_pos (by rw [f0];exact d0),show jobA m v.heldJob=a from jobA_at a1,a2];dsimp only;rw [if_neg (not_not_intro (show heldC j.B v.heldTask (wkOf v).attempt=0 from hz))];rfl)
    · exact (by have h1:=idx_ret c0.2.1;unfold valA;rw [if_pos h0,if_pos (a3.trans a0)];unfold rdyN;rw [a2];dsimp only;rw [i0];dsimp only;omega)
theorem sim_restart (hI:RecI c F nj K) (hR:Rel F nj m) (hQ:QI_r F) (hH:HI F) {x:Int}:
  ∃m',stepAll off m (restartF F x).2.1=some m'/\Rel (restartF F x).1 nj m'/\QI_r (restartF F x).1/\HI (restartF F x).1:=by
 have a0:=hR.len
 unfold restartF
 split
 ·exact ⟨m,rfl,hR,hQ,hH⟩
 ·rename_i hx
  have hx:=Classical.not_not.1 hx
  have hv:=hI.fw.wmem hx
  generalize wAt F x=v at hv
  have b0:=hR.wk hv
  split
  · exact (by rename_i hp4;obtain ⟨i1,i2⟩:=inv_idle_r (x:=x) hQ hH;have hz:=hH.z _ v hv (by unfold Holds;omega);exact ⟨_,one_step (by rw [show evt 11 x=⟨11,x,0,0,0,0,0⟩ from rfl,ev_in (v:=wkOf v) (by simp [namedE]) (by dsimp only;omega) b0,evK_11 rfl,if_pos (show (wkOf v).phase=4 from hp4)];simp only [wkOf,hz.1,hz.2.1,hz.2.2.1,hz.2.2.2.1]),hR.upd (F':=idleF F x 0) (k:=x.toNat) (v:=⟨0,0,0,0,0,0,(F.ar.getD x.toNat default).high⟩) rfl rfl,i1,i2⟩)
  ·exact ⟨m,rfl,hR,hQ,hH⟩
end
theorem Rel.jset {F F':FS} {nj:Nat} {m:MS} (h:Rel F nj m) {n:Nat} {j':JS} {a a':JA} {r:Int} (hw:F'.ws=F.ws) (hj:F'.jobs=F.jobs.set n j') (ha:m.jobs[n]?=some a) (h1:a'.B=some j'.B) (h2:runJ a'=j'.running) (h3:a'.T.map Task.v=j'.tasks) (hr:r=m.rd+valA a'-valA a):
  Rel F' nj ⟨m.ws,m.jobs.set n a',r⟩:=by
 refine ⟨by rw [hw];exact h.wl,by simp only [List.length_set];exact h.jl,?_,?_⟩
 ·intro i y hi hy
  rw [hj] at hy
  rcases set_at' hy with ⟨e,rfl⟩|⟨e,hy⟩
  ·subst e;exact ⟨a',set_at ha,h1,h2,h3⟩
  · exact (by obtain ⟨b,b1,b2⟩:=h.jb i y hi hy;exact ⟨b,by dsimp only;rw [List.getElem?_set,if_neg e];exact b1,b2⟩)
 · exact (by have:=rsum_set (a':=a') ha;have h4:=h.rd;dsimp only;omega)
section
variable {c:Cfg} {F:FS} {nj:Nat} {K:Int} {m:MS} {off:List TL}
theorem sim_cancel (hI:RecI c F nj K) (hR:Rel F nj m) (hQ:QI_r F) (hH:HI F) {k:Int}:
  ∃m',stepAll off m (cancelF F k).2.1=some m'/\Rel (cancelF F k).1 nj m'/\QI_r (cancelF F k).1/\HI (cancelF F k).1:=by
 have d0:=hR.len
 have hn:=hI.fw.n
 unfold cancelF
 split
 ·exact ⟨m,rfl,hR,hQ,hH⟩
 ·rename_i hk
  split
  ·exact ⟨m,rfl,hR,hQ,hH⟩
  ·rename_i a0
   have b0:0<=k/\k<64:=by omega
   obtain ⟨j,hj⟩:=at_some hI.fw.jl (k:=k.toNat) om
   have e:jobAt F k=j:=getD_some hj
   rw [e] at a0 hk
   have a0:j.running=true:=by simpa using a0
   have ha:=(hI.fw.j j (List.mem_of_getElem? hj)).r a0
   obtain ⟨a,a1,a2,a3,a4⟩:=hR.jb _ j (added_lt hI hj ha) hj
   obtain ⟨i1,i2⟩:=inv_cancel_r hQ hH b0.1 hj
   obtain ⟨v,hv⟩:∃v,F.ws[(0:Int).toNat]?=some v:=at_some rfl (by simp;omega)
   have c0:runJ {a with x:=true}=false:=by unfold runJ;rfl
   refine ⟨_,one_step ?_,hR.jset (F':=cancelW F k) (n:=k.toNat) (j':={j with running:=false}) (a:=a) (a':={a with x:=true}) (r:=m.rd-(((idxOf 2 0 j.B.st).length:Nat):Int)) rfl (by unfold cancelW;rw [e]) a1 a2 c0 a4 ?_,i1,i2⟩
   · exact (by rw [ev_in (v:=wkOf v) (by simp [namedE]) (by dsimp only;omega) (hR.wk hv),evK_2 rfl];unfold cancelM;rw [if_pos (by rw [runs_of (n:=k) b0.1 a1,a3];exact a0),show jobA m k=a from jobA_at a1,a2];dsimp only;rw [a2])
   · exact (by unfold valA;rw [if_neg (by rw [c0];decide),if_pos (a3.trans a0)];unfold rdyN;rw [a2];dsimp only;omega)
theorem map_at {α β:Type} {f:α->β} {l:List α} {xs ys:List β} {y:β} (h:l.map f=xs++y::ys):∃x,l[xs.length]?=some x/\f x=y:=by
  have h1:(l.map f)[xs.length]?=some y:=by rw [h,List.getElem?_append_right (Nat.le_refl _),Nat.sub_self];rfl
  rw [List.getElem?_map] at h1
  cases hx:l[xs.length]? with
  |none=>rw [hx] at h1;cases h1
  |some x=>rw [hx] at h1;exact ⟨x,rfl,Option.some.inj h1⟩
theorem sim_add (hI:RecI c F nj K) (hR:Rel F nj m) (hQ:QI_r F) (hH:HI F) {T:TL} {bd:Int} (hT:off[nj]?=some T) (h4:nj<4) (hb:0<=bd/\bd<4) (hl:validC T.l.l=0) (hl5:T.l.l.length<=5):
  ∃m',stepAll off m [⟨1,0,0,(nj:Int),0,0,0⟩]=some m'/\Rel (addF F (nj:Int) T.l.l bd) (nj+1) m'/\QI_r (addF F (nj:Int) T.l.l bd)/\HI (addF F (nj:Int) T.l.l bd):=by
 have c0:totS (shapeF F.jobs)<=20:=by have:=hI.s2;have:=hI.n4;omega
 have d0:=hR.len
 have hn:=hI.fw.n
 obtain ⟨j,hj,ha⟩:=hI.fresh h4
 obtain ⟨i1,i2⟩:=inv_add_r (x:=(nj:Int)) (bd:=bd) (l:=T.l.l) hI.fw hQ hH c0 hl5 om hb hj ha
 obtain ⟨v,hv⟩:∃v,F.ws[(0:Int).toNat]?=some v:=at_some rfl (by simp;omega)
 have hz:=validC_zero hl
 have a0:runJ ⟨T.l.l,some (newB T.l.l),false⟩=true:=(by unfold runJ;dsimp only;rw [done_new,show (newB T.l.l).deps.length=T.l.l.length by simp [newB],decide_eq_true om];rfl)
 refine ⟨{m with jobs:=m.jobs++[⟨T.l.l,some (newB T.l.l),false⟩],rd:=m.rd+(((idxOf 2 0 (newB T.l.l).st).length:Nat):Int)},one_step ?_,⟨hR.wl,by simp only [List.length_append,List.length_singleton,hR.jl],?_,?_⟩,i1,i2⟩
 · exact (by rw [ev_in (v:=wkOf v) (by simp [namedE]) (by dsimp only;omega) (hR.wk hv),evK_1 rfl];unfold submitM;rw [if_neg (not_not_intro (by rw [hR.jl])),if_neg (not_not_intro rfl)];dsimp only;rw [Int.toNat_natCast,hT];dsimp only;rw [if_neg (not_not_intro hl)])
 ·intro k y hk hy
  have b0:(F.jobs.set (nj:Int).toNat (jobN T.l.l bd))[k]?=some y:=hy
  rw [Int.toNat_natCast] at b0
  rcases set_at' b0 with ⟨e,rfl⟩|⟨e,e0⟩
  · exact (by subst e;refine ⟨⟨T.l.l,some (newB T.l.l),false⟩,?_,rfl,a0,rfl⟩;dsimp only;rw [List.getElem?_append_right (by rw [hR.jl];exact Nat.le_refl _),hR.jl,Nat.sub_self];rfl)
  ·obtain ⟨b,b1,b2⟩:=hR.jb k y om e0
   exact ⟨b,by dsimp only;rw [List.getElem?_append_left ((List.getElem?_eq_some_iff.1 b1).1)];exact b1,b2⟩
 · exact (by dsimp only;rw [rsum_snoc,hR.rd];unfold valA;rw [if_pos a0];rfl)
end
theorem t5_shape {l l':List JS} (h:shapeF l'=shapeF l) (h5:∀j∈l,j.tasks.length<=5):∀j∈l',j.tasks.length<=5:=by
  intro j hj
  have h1:(j.added,j.tasks.length)∈shapeF l':=List.mem_map.2 ⟨j,hj,rfl⟩
  rw [h] at h1
  obtain ⟨j2,h2,h3⟩:=List.mem_map.1 h1
  have:=h5 j2 h2
  have h4:=(Prod.mk.inj h3).2
  omega
theorem tr_sim {c:Cfg} {off:List TL} {K:Nat} {js:List (List Task)} {es:List Evt} {F:FS} (hv:validCfg c=0) (hc:c.tasks=512) (h:Tr c K js es F):∀{rest:List (List Task)},K<=3000->off.map (·.l.l)=js++rest->
  ∃m,stepAll off (startM c) es=some m/\Rel F js.length m/\QI_r F/\HI F/\∀j∈F.jobs,j.tasks.length<=5:=by
 induction h with
 |nil=>
  intro rest _ _
  obtain ⟨h1,h2⟩:=inv_new_r hc
  refine ⟨startM c,rfl,⟨?_,rfl,(fun k j hk=>by cases hk),rfl⟩,h1,h2,?_⟩
  ·simp only [startM,newF,List.map_replicate];rfl
  · exact (by intro j hj;obtain rfl:=List.eq_of_mem_replicate hj;simp [JS.zero])
 |@add K js es F l bd ht h4 hb hl h5 hs ih=>
  intro rest hK a0
  obtain ⟨m,g1,g2,g3,g4,g5⟩:=ih (rest:=l::rest) om (by rw [a0];simp)
  have hI:=ht.inv hv om
  obtain ⟨T,hT,rfl⟩:=map_at (show off.map (·.l.l)=js++l::rest by rw [a0];simp)
  obtain ⟨m',e1,e2,e3,e4⟩:=sim_add (off:=off) (bd:=bd) hI g2 g3 g4 hT h4 hb hl h5
  exact ⟨m',(stepAll_app g1).trans e1,by rw [List.length_append];exact e2,e3,e4,(mem_set' g5 (by simp only [jobN,List.length_map];exact h5))⟩
 |@cancel K js es F k ht ih=>
  intro rest hK a0
  obtain ⟨m,g1,g2,g3,g4,g5⟩:=ih om a0
  have hI:=ht.inv hv om
  obtain ⟨m',e1,e2,e3,e4⟩:=sim_cancel (off:=off) (k:=k) hI g2 g3 g4
  exact ⟨m',(stepAll_app g1).trans e1,e2,e3,e4,t5_shape (cancel_ok hI.fw hI.st om).2.2 g5⟩
 |@crash K js es F x ht ih=>
  intro rest hK a0
  obtain ⟨m,g1,g2,g3,g4,g5⟩:=ih om a0
  have hI:=ht.inv hv om
  obtain ⟨m',e1,e2,e3,e4⟩:=sim_crash (off:=off) (x:=x) hI g2 g3 g4
  exact ⟨m',(stepAll_app g1).trans e1,e2,e3,e4,t5_shape (crash_ok hI.fw hI.st om).2.2 g5⟩
 |@restart K js es F x ht ih=>
  intro rest hK a0
  obtain ⟨m,g1,g2,g3,g4,g5⟩:=ih om a0
  have hI:=ht.inv hv om
  obtain ⟨m',e1,e2,e3,e4⟩:=sim_restart (off:=off) (x:=x) hI g2 g3 g4
  exact ⟨m',(stepAll_app g1).trans e1,e2,e3,e4,t5_shape (restart_ok hI.fw hI.st om).2.2 g5⟩
 |@step K js es F x y ht ih=>
  intro rest hK a0
  obtain ⟨m,g1,g2,g3,g4,g5⟩:=ih om a0
  have hI:=ht.inv hv om
  obtain ⟨m',e1,e2,e3,e4⟩:=sim_step (off:=off) (x:=x) (y:=y) hI om g2 g3 g4 g5
  exact ⟨m',(stepAll_app g1).trans e1,e2,e3,e4,t5_shape (step_ok hI.fw hI.st om).2.2 g5⟩
theorem tr_len {c:Cfg} {K:Nat} {js:List (List Task)} {es:List Evt} {F:FS} (h:Tr c K js es F):∀l∈js,l.length<=5:=by
  induction h with
  |nil=>intro l hl;cases hl
  |add l bd _ _ _ _ h5 _ ih=>
    intro x hx
    rcases List.mem_append.1 hx with h|h
    · exact ih x h
    · rw [List.mem_singleton.1 h];exact h5
  |cancel _ _ ih=>exact ih
  |crash _ _ ih=>exact ih
  |restart _ _ ih=>exact ih
  |step _ _ _ ih=>exact ih
theorem tr_es {c:Cfg} {K:Nat} {js:List (List Task)} {es:List Evt} {F:FS} (h:Tr c K js es F):es.length<=2*K:=by
  induction h with
  |nil=>exact Nat.le_refl _
  |add l bd _ _ _ _ _ _ ih=>rw [List.length_append,List.length_singleton];omega
  |@cancel K js es F k _ ih=>have:=cancel_len (F:=F) (k:=k);rw [List.length_append];omega
  |@crash K js es F x _ ih=>have:=crash_len (F:=F) (x:=x);rw [List.length_append];omega
  |@restart K js es F x _ ih=>have:=restart_len (F:=F) (x:=x);rw [List.length_append];omega
  |@step K js es F x y _ ih=>have:=step_len (F:=F) (x:=x) (c:=y);rw [List.length_append];omega
theorem l31_config {cs:List Chunk} (hS:Sat W w cs):
  Ro prog 40 #[] (.agg #[I 2,I 1,I 1,I 0,I 1,I 9,I 1,I 9]) W w cs:=by
 exact callsK 2 func40 rfl<|jCO 2 rfl<|sAlloc hS zeroValue24 fun _ _ b0=>jOO 5 rfl<|sTk b0 0 rfl [I 2,I 1,I 1,I 0,I 1,I 9,I 1,I 9] fun _ a0=>jOR 3 rfl<|retN (vs:=[.agg #[I 2,I 1,I 1,I 0,I 1,I 9,I 1,I 9]]) rfl (.cons (.cell _ _ _ _ kr (lvA a0 0 0 [I 2,I 1,I 1,I 0,I 1,I 9,I 1,I 9] (isAgg24 _) (sizeOf24 _) rfl rfl rfl)) .nil)<|⟨rfl,(a0.dropAt 0 rfl)⟩
theorem l31_sane {cs:List Chunk} (hS:Sat W w cs):
  Ro prog 11 #[] (.bool true) W w cs:=by
 refine callsK 65 func11 rfl<|jCO 8 rfl<|sBS hS (encTask {zTask with rows:=1}).toArray runUnderlying45 sizeOf51 zeroValue51 fun b0 _ h0=>sBS h0 #[.slice (At b0 0) 1 1] runUnderlying25 sizeOf45 zeroValue45 fun c0 _ i0=>jOO 10 rfl<|sBS i0 #[I 1,I 0,I 0,I 0,I 0,I 0,I 0,I 4,I 0,I 0,I 0,I 0,I 0,I 0,I 6,I 0,I 0,I 0,I 0,I 0,I 0,I 7,I 0,I 0,I 0,I 0,I 0,I 0,I 8,I 0,I 0,I 0,I 0,I 0,I 0] runUnderlying26 sizeOf63 zeroValue63 fun a0 _ j0=>jOO 5 rfl<|cX call40 (l31_config j0) ?_
 rintro _ _ ⟨rfl,k0⟩
 refine pu2<|cR call35 (au_check (⟨2,1,1,0,1,9,1,9⟩:Cfg) (At c0 0) 1 1 ([(⟨⟨(At b0 0),1,1,[(⟨0,0,0,0,0,0,⟨none,0,0,[]⟩,1,0⟩:Task)]⟩⟩:TL)]) (At a0 0) 5 5 ([(⟨1,0,0,0,0,0,0⟩:Evt),(⟨4,0,0,0,0,0,0⟩:Evt),(⟨6,0,0,0,0,0,0⟩:Evt),(⟨7,0,0,0,0,0,0⟩:Evt),(⟨8,0,0,0,0,0,0⟩:Evt)]) (RdT.flat (RdT.blk (enc:=encTL) (sz:=1) (xs:=[(⟨⟨(At b0 0),1,1,[(⟨0,0,0,0,0,0,⟨none,0,0,[]⟩,1,0⟩:Task)]⟩⟩:TL)]) (fun _=>(by rfl)) 1 1 rfl rfl rfl om)) (fun z hz=>by
   rcases List.mem_singleton.1 hz with rfl
   exact ⟨(RdT.blk (enc:=encTask) (sz:=9) (xs:=[(⟨0,0,0,0,0,0,⟨none,0,0,[]⟩,1,0⟩:Task)]) fR 1 2 rfl rfl rfl om).of_mem mem_flat,fun y hy=>by
    rcases List.mem_singleton.1 hy with rfl
    exact ⟨RdT.nil (enc:=Go.E.encI) (sz:=1) fR _⟩⟩) (RdT.flat (RdT.blk (enc:=encEvt) (sz:=7) (xs:=[(⟨1,0,0,0,0,0,0⟩:Evt),(⟨4,0,0,0,0,0,0⟩:Evt),(⟨6,0,0,0,0,0,0⟩:Evt),(⟨7,0,0,0,0,0,0⟩:Evt),(⟨8,0,0,0,0,0,0⟩:Evt)]) (fun _=>(by rfl)) 5 0 rfl rfl rfl om)) (by intro z hz;rcases List.mem_singleton.1 hz with rfl;show 1<=12;decide) (by decide) k0.flat) ?_
 intro _ l0
 refine jOC 8 rfl<|drawG l0 [0,11,12] (fb 4 0 0 7<|fb 7 0 7 7<|fb 10 0 21 7<|fn) (Plan.sts [1,2]<|Plan.sts [3]<|Plan.sts [5]<|Plan.sts [6]<|Plan.sts [8]<|Plan.sts [9]<|Plan.sts [4]<|Plan.sts [7]<|Plan.sts [10]<| .fk 0 11 (.ef 11<| .ef 12<|Plan.sts [13]<|Plan.sts [14]<|Plan.sts [15]<|Plan.sts [16,17]<| .fin) (.ef 0<| .ef 12<|Plan.sts [13]<|Plan.sts [14]<|Plan.sts [15]<|Plan.sts [16,17]<| .fin)) fun _ d0=>qU [1,2]<|qY (Pt a0 0) rfl (fun w _=>Y_idx (a:=(At a0 0)) (i:=0) (len:=5) (cap:=5) rfl runUnderlying26 sizeOf63 kr kr ⟨_,rfl,add_off _ 0 _,by decide,by decide⟩)<|qU [5]<|qY (Pt a0 7) rfl (fun w _=>Y_idx (a:=(At a0 0)) (i:=1) (len:=5) (cap:=5) rfl runUnderlying26 sizeOf63 kr kr ⟨_,rfl,add_off _ 0 _,by decide,by decide⟩)<|qU [8]<|qY (Pt a0 21) rfl (fun w _=>Y_idx (a:=(At a0 0)) (i:=3) (len:=5) (cap:=5) rfl runUnderlying26 sizeOf63 kr kr ⟨_,rfl,add_off _ 0 _,by decide,by decide⟩)<|qG 0 7<|qG 7 7<|qG 14 7<|qF ?_ ?_
 rotate_left
 ·refine qO rfl<|sBS d0 #[I 1,I 0,I 0,I 0,I 0,I 0,I 0,I 4,I 0,I 0,I 0,I 0,I 0,I 0,I 7,I 0,I 0,I 0,I 0,I 0,I 0] runUnderlying26 sizeOf63 zeroValue63 fun m0 _ n0=>nA<|qO rfl<|cX call40 (l31_config n0) ?_
  rintro _ _ ⟨rfl,o0⟩
  refine nA<|qO rfl<|cR call35 (au_check (⟨2,1,1,0,1,9,1,9⟩:Cfg) (At c0 0) 1 1 ([(⟨⟨(At b0 0),1,1,[(⟨0,0,0,0,0,0,⟨none,0,0,[]⟩,1,0⟩:Task)]⟩⟩:TL)]) (At m0 0) 3 3 ([(⟨1,0,0,0,0,0,0⟩:Evt),(⟨4,0,0,0,0,0,0⟩:Evt),(⟨7,0,0,0,0,0,0⟩:Evt)]) (RdT.flat (RdT.blk (enc:=encTL) (sz:=1) (xs:=[(⟨⟨(At b0 0),1,1,[(⟨0,0,0,0,0,0,⟨none,0,0,[]⟩,1,0⟩:Task)]⟩⟩:TL)]) (fun _=>(by rfl)) 1 2 rfl rfl rfl om)) (fun z hz=>by
    rcases List.mem_singleton.1 hz with rfl
    exact ⟨(RdT.blk (enc:=encTask) (sz:=9) (xs:=[(⟨0,0,0,0,0,0,⟨none,0,0,[]⟩,1,0⟩:Task)]) fR 1 3 rfl rfl rfl om).of_mem mem_flat,fun y hy=>by
     rcases List.mem_singleton.1 hy with rfl
     exact ⟨RdT.nil (enc:=Go.E.encI) (sz:=1) fR _⟩⟩) (RdT.flat (RdT.blk (enc:=encEvt) (sz:=7) (xs:=[(⟨1,0,0,0,0,0,0⟩:Evt),(⟨4,0,0,0,0,0,0⟩:Evt),(⟨7,0,0,0,0,0,0⟩:Evt)]) (fun _=>(by rfl)) 3 0 rfl rfl rfl om)) (by intro z hz;rcases List.mem_singleton.1 hz with rfl;show 1<=12;decide) (by decide) o0.flat) ?_
  intro _ p0
  exact nA<|qU [13]<|qU [14]<|qU [15]<|qU [16,17]<|qN<|jXO 4 rfl<|cR call37 (au_count (At a0 0) 5 5 ([(⟨1,0,0,0,0,0,0⟩:Evt),(⟨4,0,0,0,0,0,0⟩:Evt),(⟨6,0,0,0,0,0,0⟩:Evt),(⟨7,0,0,0,0,0,0⟩:Evt),(⟨8,0,0,0,0,0,0⟩:Evt)]) (RdT.flat (RdT.blk (enc:=encEvt) (sz:=7) (xs:=[(⟨1,0,0,0,0,0,0⟩:Evt),(⟨4,0,0,0,0,0,0⟩:Evt),(⟨6,0,0,0,0,0,0⟩:Evt),(⟨7,0,0,0,0,0,0⟩:Evt),(⟨8,0,0,0,0,0,0⟩:Evt)]) (fun _=>(by rfl)) 5 1 rfl rfl rfl om)) (by first|omega|decide|(simp only [List.length_append,List.length_take,List.length_drop,List.length_nil];omega)) p0.flat) fun _ q0=>sAlloc q0 zeroValue67 fun _ _ r0=>sTl r0 0 (encStt {zStt with starts:=1,commits:=1}) sizeOf67 fun _ e0=>gOR e0 31 [0,0] rfl<|retT [.bool true]<|⟨rfl,(e0.drops [0,0,0,0,0])⟩
 refine qO rfl<|cX call40 (l31_config d0) ?_
 rintro _ _ ⟨rfl,f0⟩
 refine nZ f0 [0,0,0]<|qO rfl<|sBS f0 #[I 1,I 0,I 0,I 0,I 0,I 0,I 0,I 4,I 0,I 0,I 0,I 0,I 0,I 0,I 7,I 0,I 0,I 0,I 0,I 0,I 0] runUnderlying26 sizeOf63 zeroValue63 fun t0 _ u0=>nA<|qO rfl<|cR call35 (au_check (⟨2,1,1,0,1,9,1,9⟩:Cfg) (At c0 0) 1 1 ([(⟨⟨(At b0 0),1,1,[(⟨0,0,0,0,0,0,⟨none,0,0,[]⟩,1,0⟩:Task)]⟩⟩:TL)]) (At t0 0) 3 3 ([(⟨1,0,0,0,0,0,0⟩:Evt),(⟨4,0,0,0,0,0,0⟩:Evt),(⟨7,0,0,0,0,0,0⟩:Evt)]) (RdT.flat (RdT.blk (enc:=encTL) (sz:=1) (xs:=[(⟨⟨(At b0 0),1,1,[(⟨0,0,0,0,0,0,⟨none,0,0,[]⟩,1,0⟩:Task)]⟩⟩:TL)]) (fun _=>(by rfl)) 1 2 rfl rfl rfl om)) (fun z hz=>by
   rcases List.mem_singleton.1 hz with rfl
   exact ⟨(RdT.blk (enc:=encTask) (sz:=9) (xs:=[(⟨0,0,0,0,0,0,⟨none,0,0,[]⟩,1,0⟩:Task)]) fR 1 3 rfl rfl rfl om).of_mem mem_flat,fun y hy=>by
    rcases List.mem_singleton.1 hy with rfl
    exact ⟨RdT.nil (enc:=Go.E.encI) (sz:=1) fR _⟩⟩) (RdT.flat (RdT.blk (enc:=encEvt) (sz:=7) (xs:=[(⟨1,0,0,0,0,0,0⟩:Evt),(⟨4,0,0,0,0,0,0⟩:Evt),(⟨7,0,0,0,0,0,0⟩:Evt)]) (fun _=>(by rfl)) 3 0 rfl rfl rfl om)) (by intro z hz;rcases List.mem_singleton.1 hz with rfl;show 1<=12;decide) (by decide) u0.flat) ?_
 intro _ v0
 exact nA<|qU [13]<|qU [14]<|qU [15]<|qU [16,17]<|qN<|jXO 4 rfl<|cR call37 (au_count (At a0 0) 5 5 ([(⟨1,0,0,0,0,0,0⟩:Evt),(⟨4,0,0,0,0,0,0⟩:Evt),(⟨6,0,0,0,0,0,0⟩:Evt),(⟨7,0,0,0,0,0,0⟩:Evt),(⟨8,0,0,0,0,0,0⟩:Evt)]) (RdT.flat (RdT.blk (enc:=encEvt) (sz:=7) (xs:=[(⟨1,0,0,0,0,0,0⟩:Evt),(⟨4,0,0,0,0,0,0⟩:Evt),(⟨6,0,0,0,0,0,0⟩:Evt),(⟨7,0,0,0,0,0,0⟩:Evt),(⟨8,0,0,0,0,0,0⟩:Evt)]) (fun _=>(by rfl)) 5 1 rfl rfl rfl om)) (by first|omega|decide|(simp only [List.length_append,List.length_take,List.length_drop,List.length_nil];omega)) v0.flat) fun _ w0=>sAlloc w0 zeroValue67 fun _ _ x0=>sTl x0 0 (encStt {zStt with starts:=1,commits:=1}) sizeOf67 fun _ g0=>gOR g0 31 [0,0] rfl<|retT [.bool true]<|⟨rfl,(g0.drops [0,0,0,0,0])⟩
end Go.Proofs.YtkadmghedmodbaaGreat
