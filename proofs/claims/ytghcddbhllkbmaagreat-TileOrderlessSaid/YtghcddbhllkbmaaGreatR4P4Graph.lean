import Derived.Test.YtghcddbhllkbmaaGreatR4P4RefP
namespace Go.Proofs.YtghcddbhllkbmaaGreat
open Go Go.E Go.Proofs.Tryz
set_option linter.all false
set_option maxRecDepth 100000
set_option maxHeartbeats 2000000
variable {W w:World} {H:Chunk} {F:List Chunk}
def srcs (s:StageV):List Int:=if twoP s then [s.a,s.b] else [s.a]
theorem srcs_len (s:StageV):1<=(srcs s).length/\(srcs s).length<=2:=by unfold srcs;split<;>simp
def inR (n:Int) (l:List Int):Bool:=l.all fun x=>decide (0<=x/\x<n)
def chkCode (j:JobV):Int:=
  if 1<=j.inputs.length/\1<=j.stages.length/\j.inputs.length+j.stages.length<=16/\1<=j.outputs.length/\j.outputs.length<=16 then (if 0<=j.priority/\j.priority<4 then
    (if j.stages.all (fun s=>inR (j.inputs.length+j.stages.length) (srcs s))=true then (if inR (j.inputs.length+j.stages.length) j.outputs=true then 0 else 6) else 6) else 2) else 5
theorem r15_sources (q:Stage) (hq:Stage.Ok [H] q) (hS:Sat W w (H::F)):
  Calls prog 75 #[.agg (encStage q).toArray] w fun e w'=>∃(az:Option Addr) (nz kz:Nat) (G:Chunk),e= .returned (.slice az nz kz)/\RdT Go.E.encI 1 [G] az nz kz (srcs q.v)/\Sat W w' (G::H::F):=by
 have j0:=hq.weights.ll
 have m0:=hq.row.ll
 have k0:=hq.col.ll
 have o0:=hq.x.ll
 have p0:=hq.y.ll
 have l0:=hq.ops.ll
 exact callsK 13 func75 rfl<|jCO 2 rfl<|sBx hS (encStage q) fun _ _ b0=>gOO b0 7 [1800] rfl<|cS (r15_two q (hq.of_mem (mF 1)) b0.flat) fun _ a0=>jOC 2 rfl<|CD (q.kind=6/\¬q.b=-1) (fun e0=>gCO a0 6 [0] rfl<|sBK a0 #[I q.a] 3 fun c0 _ f0=>jOR 4 rfl<|retT [.slice (At c0 0) 1 1]<|(by have g0:=(f0.dropAt 1 rfl);have hl:[q.a]=srcs q.v:=(by unfold srcs;rw [if_neg (by unfold twoP;simp only [Stage.v];omega)];rfl);have n0:=(RdT.blk (cs:=[[(c0, .cells #[I q.a] 3 (0,0))]]) (enc:=Go.E.encI) (sz:=1) (xs:=[q.a]) fR 1 0 rfl rfl rfl om);rw [hl] at n0;exact ⟨_,_,_,_,rfl,n0,g0⟩)) fun e0=>gCO a0 6 [0,0] rfl<|sBK a0 #[I q.a,I q.b] 3 fun d0 _ h0=>jOR 5 rfl<|retT [.slice (At d0 0) 2 2]<|(by have i0:=(h0.dropAt 1 rfl);have hl:[q.a,q.b]=srcs q.v:=(by unfold srcs;rw [if_pos (by unfold twoP;simp only [Stage.v];omega)];rfl);have n0:=(RdT.blk (cs:=[[(d0, .cells #[I q.a,I q.b] 3 (0,0))]]) (enc:=Go.E.encI) (sz:=1) (xs:=[q.a,q.b]) fR 2 0 rfl rfl rfl om);rw [hl] at n0;exact ⟨_,_,_,_,rfl,n0,i0⟩)
theorem r17_has (ax:Option Addr) (nx kx:Nat) (x:List Int) (y:Int) (hx:RdT Go.E.encI 1 [H] ax nx kx x) (hS:Sat W w (H::F)):
  Ro prog 74 #[.slice ax nx kx,I y] (.bool (decide (y∈x))) W w (H::F):=by
 have g0:=hx.ll
 refine callsK 18 func74 rfl<|jCC 12 rfl<|loopF [0,1] (γ:=Nat) (fun i R=>⟨[(5,I (i:Int))],R,nx-i,i<=nx/\(¬y∈x.take i)⟩) 0 ⟨hS,om,by simp⟩ ?_
 rintro i ρ _ ⟨a0,hi,hE⟩
 exact jCC 9 rfl<|CD ((i:Int)<(nx:Int)) (fun d0=>jCR 11 rfl<|retT [.bool false]<|⟨by rw [decide_eq_false (show ¬y∈x from by rw [List.take_of_length_le om] at hE;exact hE)];rfl,a0⟩) fun d0=>jCO 8 rfl<|sIN hx i fun b0 _ _ c0 e0=>sMp a0 (e0.up 0 rfl) 0 (I b0)<|jOC 4 rfl<|cE b0 y (fun f0=>jCR 11 rfl<|retT [.bool true]<|⟨by rw [decide_eq_true (show y∈x from (by omega:b0=y)▸List.mem_of_getElem? c0)];rfl,a0⟩) fun f0=>jCO 5 rfl<|sAdd (i:Int) 1<|jOI 2 rfl<|⟨i+1,od,alB,a0,om,by rw [take_succ_at c0];simp only [List.mem_append,List.mem_singleton,not_or];exact ⟨hE,om⟩⟩
theorem r17_check (p:Job) (hp:Job.Ok [H] p) (hb:p.inputs.n<=1000000/\p.stages.n<=1000000/\p.outputs.n<=1000000) (hS:Sat W w (H::F)):
  Ro prog 73 #[.agg (encJob p).toArray] (I (chkCode p.v)) W w (H::F):=by
 have D0:=hp.inputs.le;have A0:=hp.inputs.len
 have E0:=hp.stages.le;have B0:=hp.stages.len
 have C0:=hp.outputs.ll
 have J0:(p.inputs.l.map Plane.v).length=p.inputs.n:=by simp [A0]
 have K0:(p.stages.l.map Stage.v).length=p.stages.n:=by simp [B0]
 refine callsK 105 func73 rfl<|jCO 2 rfl<|sBx hS (encJob p) fun _ _ a0=>gOO a0 11 [0,0] rfl<|sAdd (p.inputs.n:Int) (p.stages.n:Int)<|jOC 5 rfl<|cutF a0 0 [1,3] (γ:=Unit) (fun _ R=>⟨[(15, .bool (decide (¬(1<=p.inputs.n/\1<=p.stages.n/\p.inputs.n+p.stages.n<=16/\1<=p.outputs.n/\p.outputs.n<=16))))],R,0,True⟩) ?_ ?_
 ·exact gCO a0 6 [0] rfl<|sE 20 (p.inputs.n:Int) 0 (fun p0=>jOI 23 rfl<|⟨(),⟨⟨(mT om),trivial⟩,sA⟩,a0,trivial⟩) fun p0=>gOO a0 6 [0] rfl<|sE 26 (p.stages.n:Int) 0 (fun q0=>jOI 17 rfl<|⟨(),⟨⟨(mT om),trivial⟩,sA⟩,a0,trivial⟩) fun q0=>pu4<|sD 30 (((p.inputs.n:Int)+(p.stages.n:Int))>16) (fun r0=>jOI 13 rfl<|⟨(),⟨⟨(mT om),trivial⟩,sA⟩,a0,trivial⟩) fun r0=>gOO a0 6 [0] rfl<|sE 36 (p.outputs.n:Int) 0 (fun s0=>jOI 7 rfl<|⟨(),⟨⟨(mT om),trivial⟩,sA⟩,a0,trivial⟩) fun s0=>gOI a0 7 [0] rfl<|⟨(),⟨⟨(mB (decide ((p.outputs.n:Int)>16)) bm),trivial⟩,sA⟩,a0,trivial⟩
 rintro _ ρ _ ⟨d0,_⟩
 refine cD (¬(1<=p.inputs.n/\1<=p.stages.n/\p.inputs.n+p.stages.n<=16/\1<=p.outputs.n/\p.outputs.n<=16)) (fun t0=>jCR 8 rfl<|retT [I 5]<|(by have u0:=(d0.dropAt 0 rfl);have hk:chkCode p.v=5:=(by unfold chkCode;rw [if_neg (by simp only [Job.v];omega)]);exact ⟨by rw [hk];rfl,u0⟩)) fun t0=>gCO d0 6 [0] rfl<|sD 46 (p.priority<0) (fun v0=>jOR 16 rfl<|retT [I 2]<|(by have w0:=(d0.dropAt 0 rfl);have hk:chkCode p.v=2:=(by unfold chkCode;rw [if_pos (by simp only [Job.v];omega),if_neg (by simp only [Job.v];omega)]);exact ⟨by rw [hk];rfl,w0⟩)) fun v0=>gOC d0 7 [0] rfl<|cD (p.priority>=4) (fun x0=>jCR 8 rfl<|retT [I 2]<|(by have y0:=(d0.dropAt 0 rfl);have hk:chkCode p.v=2:=(by unfold chkCode;rw [if_pos (by simp only [Job.v];omega),if_neg (by simp only [Job.v];omega)]);exact ⟨by rw [hk];rfl,y0⟩)) fun x0=>jCC 10 rfl<|loopF [1,3] (γ:=Nat) (fun i R=>⟨[(4,I (i:Int))],R,p.stages.n-i,i<=p.stages.n/\(((p.stages.l.map Stage.v).take i).all (fun s=>inR ((p.inputs.l.map Plane.v).length+(p.stages.l.map Stage.v).length:Int) (srcs s))=true)⟩) 0 ⟨d0,om,by rfl⟩ ?_
 rintro i ρ _ ⟨f0,hi,hE⟩
 refine gCC f0 10 [0] rfl<|CD ((i:Int)<(p.stages.n:Int)) (fun z0=>jCC 7 rfl<|(by have I0:(p.stages.l.map Stage.v).all (fun s=>inR ((p.inputs.l.map Plane.v).length+(p.stages.l.map Stage.v).length:Int) (srcs s))=true:=all_of_take hE om;refine jCC 5 rfl<|loopF [1,3] (γ:=Nat) (fun m R=>⟨[(7,I (m:Int))],R,p.outputs.n-m,m<=p.outputs.n/\(inR ((p.inputs.l.map Plane.v).length+(p.stages.l.map Stage.v).length:Int) (p.outputs.l.take m)=true)⟩) 0 ⟨f0,om,by rfl⟩ ?_;rintro m ρ _ ⟨b0,hm,hF⟩;refine gCC b0 10 [0] rfl<|CD ((m:Int)<(p.outputs.n:Int)) (fun a1=>jCR 11 rfl<|retT [I 0]<|(by have b1:=(b0.dropAt 0 rfl);have ho:=all_of_take hF om;have hk:chkCode p.v=0:=(by unfold chkCode;rw [if_pos (by simp only [Job.v];omega),if_pos (by simp only [Job.v];omega),if_pos (by exact I0),if_pos (by exact ho)]);exact ⟨by rw [hk];rfl,b1⟩)) fun a1=>gCO b0 9 [0] rfl<|sIN hp.outputs m fun g0 _ _ h0 c1=>sMp b0 (c1.up 1 rfl) 0 (I g0)<|pu2<|sD 96 (g0<0) (fun d1=>jOR 22 rfl<|retT [I 6]<|(by have e1:=(b0.dropAt 0 rfl);have ho:=all_false_at (p:=fun x=>decide (0<=x/\x<((p.inputs.l.map Plane.v).length+(p.stages.l.map Stage.v).length:Int))) h0 (decide_eq_false om);have hk:chkCode p.v=6:=(by unfold chkCode;rw [if_pos (by simp only [Job.v];omega),if_pos (by simp only [Job.v];omega),if_pos (by exact I0),if_neg (by exact fun h=>Bool.false_ne_true (ho.symm.trans h))]);exact ⟨by rw [hk];rfl,e1⟩)) fun d1=>gOO b0 3 [0] rfl<|gY<|sIN hp.outputs m fun f1 _ _ n0 g1=>?_;obtain rfl:g0=f1:=Option.some.inj (h0.symm.trans n0);refine gY<|sMp b0 (g1.up 1 rfl) 0 (I g0)<|jOC 5 rfl<|CD (g0>=((p.inputs.n:Int)+(p.stages.n:Int))) (fun h1=>jCO 5 rfl<|sAdd (m:Int) 1<|jOI 2 rfl<|⟨m+1,od,alB,b0,om,all_succ hF h0 (decide_eq_true om)⟩) fun h1=>jCR 11 rfl<|retT [I 6] ?_;have i1:=(b0.dropAt 0 rfl);have ho:=all_false_at (p:=fun x=>decide (0<=x/\x<((p.inputs.l.map Plane.v).length+(p.stages.l.map Stage.v).length:Int))) h0 (decide_eq_false om);have hk:chkCode p.v=6:=(by unfold chkCode;rw [if_pos (by simp only [Job.v];omega),if_pos (by simp only [Job.v];omega),if_pos (by exact I0),if_neg (by exact fun h=>Bool.false_ne_true (ho.symm.trans h))]);exact ⟨by rw [hk];rfl,i1⟩)) fun z0=>?_
 refine gCO f0 9 [0] rfl<|sIN hp.stages i fun c0 _ _ i0 j1=>sMA f0 (j1.up 1 rfl) 0 (encStage c0)<|cZ (r15_sources c0 ((hp.stagesD c0 (List.mem_of_getElem? i0)).of_mem (mF 1)) f0.flat) ?_
 rintro _ _ ⟨_,m0,_,_,rfl,l0,k1⟩
 have l1:=k1.unflat1
 have F0:=l0.ll
 have l2:1<=(srcs c0.v).length/\(srcs c0.v).length<=2:=srcs_len _
 refine jOC 9 rfl<|loopF [1,3,4,5] (γ:=Nat) (fun k R=>⟨[(6,I (k:Int))],R,m0-k,k<=m0/\(inR ((p.inputs.l.map Plane.v).length+(p.stages.l.map Stage.v).length:Int) ((srcs c0.v).take k)=true)⟩) 0 ⟨l1,om,by rfl⟩ ?_
 rintro k ρ _ ⟨e0,hk,hK⟩
 refine jCC 9 rfl<|CD ((k:Int)<(m0:Int)) (fun m1=>jCO 8 rfl<|sAdd (i:Int) 1<|jOI 2 rfl<|⟨i+1,od,alB,(e0.dropAt 0 rfl),om,all_succ hE (map_at (f:=Stage.v) i0) (show inR _ (srcs c0.v)=true from all_of_take hK om)⟩) fun m1=>jCO 8 rfl<|sIN l0 k fun j0 _ _ k0 o1=>sMp e0 (o1.up 0 rfl) 0 (I j0)<|pu2<|sD 75 (j0<0) (fun q1=>jOR 25 rfl<|retT [I 6]<|(by have r1:=(e0.drops [0,0]);have G0:=all_false_at (p:=fun x=>decide (0<=x/\x<((p.inputs.l.map Plane.v).length+(p.stages.l.map Stage.v).length:Int))) k0 (decide_eq_false om);have H0:=all_false_at (p:=fun s=>inR ((p.inputs.l.map Plane.v).length+(p.stages.l.map Stage.v).length:Int) (srcs s)) (map_at (f:=Stage.v) i0) G0;have hk:chkCode p.v=6:=(by unfold chkCode;rw [if_pos (by simp only [Job.v];omega),if_pos (by simp only [Job.v];omega),if_neg (by exact fun h=>Bool.false_ne_true (H0.symm.trans h))]);exact ⟨by rw [hk];rfl,r1⟩)) fun q1=>pu2<|gY<|sIN l0 k fun s1 _ _ o0 t1=>?_
 obtain rfl:j0=s1:=Option.some.inj (k0.symm.trans o0)
 refine gY<|sMp e0 (t1.up 0 rfl) 0 (I j0)<|jOC 5 rfl<|CD (j0>=((p.inputs.n:Int)+(p.stages.n:Int))) (fun u1=>jCO 5 rfl<|sAdd (k:Int) 1<|jOI 2 rfl<|⟨k+1,od,alB,e0,om,all_succ hK k0 (decide_eq_true om)⟩) fun u1=>jCR 15 rfl<|retT [I 6] ?_
 have v1:=(e0.drops [0,0])
 have G0:=all_false_at (p:=fun x=>decide (0<=x/\x<((p.inputs.l.map Plane.v).length+(p.stages.l.map Stage.v).length:Int))) k0 (decide_eq_false om)
 have H0:=all_false_at (p:=fun s=>inR ((p.inputs.l.map Plane.v).length+(p.stages.l.map Stage.v).length:Int) (srcs s)) (map_at (f:=Stage.v) i0) G0
 have hk:chkCode p.v=6:=by unfold chkCode;rw [if_pos (by simp only [Job.v];omega),if_pos (by simp only [Job.v];omega),if_neg (by exact fun h=>Bool.false_ne_true (H0.symm.trans h))]
 exact ⟨by rw [hk];rfl,v1⟩
def ordOK (ni:Int) (out:List Int) (s:StageV):Bool:=(srcs s).all fun x=>decide (x<ni\/x∈out)
def ordPick (ni:Int) (out:List Int):List StageV->Int->Int
  |[],_=>-1
  |s::l,i=>if (decide (¬(ni+i)∈out)&&ordOK ni out s)=true then ni+i else ordPick ni out l (i+1)
def ordGo (ni:Int) (ss:List StageV):Nat->List Int->Option (List Int)
  |0,out=>some out
  |k+1,out=>if ordPick ni out ss 0<0 then none else ordGo ni ss k (out++[ordPick ni out ss 0])
def ordV (j:JobV):List Int×Int:=if chkCode j=0 then (match ordGo j.inputs.length j.stages j.stages.length [] with|some l=>(l,0)|none=>([],7)) else ([],chkCode j)
theorem ordGo_succ {ni:Int} {ss:List StageV} {i:Nat} {out:List Int} {n:Int} (hn:ordPick ni out ss 0=n) (h:0<=n) (hi:i<ss.length):ordGo ni ss (ss.length-i) out=ordGo ni ss (ss.length-(i+1)) (out++[n]):=by
  have e:ss.length-i=(ss.length-(i+1))+1:=by omega
  rw [e,ordGo,hn,if_neg (by omega)]
theorem ordGo_none {ni:Int} {ss:List StageV} {i:Nat} {out:List Int} {n:Int} (hn:ordPick ni out ss 0=n) (h:n<0) (hi:i<ss.length):ordGo ni ss (ss.length-i) out=none:=by
  have e:ss.length-i=(ss.length-(i+1))+1:=by omega
  rw [e,ordGo,hn,if_pos h]
theorem ordPick_range {ni:Int} {out:List Int} {n:Nat}:∀(l:List StageV) (i:Nat),i+l.length=n->0<=ordPick ni out l i->ni<=ordPick ni out l i/\ordPick ni out l i<ni+n
  |[],i,_,h=>by simp [ordPick] at h
  |s::l,i,hl,h=>by
    unfold ordPick at h⊢
    simp only [List.length_cons] at hl
    split
    · omega
    · exact (by rename_i hc;rw [if_neg hc] at h;exact ordPick_range l (i+1) (by omega) h)
theorem ordGo_range {ni:Int} {ss:List StageV}:∀(k:Nat) (out l:List Int),(∀x∈out,ni<=x/\x<ni+ss.length)->ordGo ni ss k out=some l->∀x∈l,ni<=x/\x<ni+ss.length
 |0,out,l,ho,h=>by simp only [ordGo,Option.some.injEq] at h;subst h;exact ho
 |k+1,out,l,ho,h=>by
  unfold ordGo at h
  split at h
  ·cases h
  ·refine ordGo_range k _ l (fun x hx=>?_) h
   rcases List.mem_append.1 hx with h1|h1
   ·exact ho x h1
   · exact (by simp only [List.mem_singleton] at h1;subst h1;have h2:(0:Int)<=ordPick ni out ss ((0:Nat):Int):=(by have e:((0:Nat):Int)=0:=rfl;rw [e];omega);exact ordPick_range ss 0 om h2)
theorem ordV_range {j:JobV} (h:(ordV j).2=0):∀x∈(ordV j).1,(j.inputs.length:Int)<=x/\x<j.inputs.length+j.stages.length:=by
  unfold ordV at*
  split at h
  · rename_i hc
    rw [if_pos hc]
    split at h
    · exact (by rename_i l hl;exact ordGo_range _ _ _ (fun x hx=>by cases hx) hl)
    · simp at h
  · exact (by rename_i hc;exact absurd h hc)
theorem ordV_chk {j:JobV} (h:(ordV j).2=0):chkCode j=0:=by
  unfold ordV at h
  split at h
  · assumption
  · exact h
theorem r17_order (p:Job) (hp:Job.Ok [H] p) (hb:p.inputs.n<=1000000/\p.stages.n<=1000000/\p.outputs.n<=1000000) (hS:Sat W w (H::F)):
  Calls prog 33 #[.agg (encJob p).toArray] w fun e w'=>∃(az:Option Addr) (nz kz:Nat) (G:Chunk),e= .returned (.tuple #[.slice az nz kz,I ((ordV p.v).2)])/\RdT Go.E.encI 1 [G] az nz kz ((ordV p.v).1)/\Sat W w' (G::H::F):=by
 have E0:=hp.inputs.le;have x0:=hp.inputs.len
 have F0:=hp.stages.le;have y0:=hp.stages.len
 have C0:=hp.outputs.ll
 have M0:(p.inputs.l.map Plane.v).length=p.inputs.n:=by simp [x0]
 have P0:(p.stages.l.map Stage.v).length=p.stages.n:=by simp [y0]
 refine callsK 83 func33 rfl<|jCO 2 rfl<|sBx hS (encJob p) fun _ _ q0=>gOO q0 8 [400] rfl<|cS (r17_check p (hp.of_mem (mF 1)) (od) q0.flat) fun _ r0=>jOC 9 rfl<|CN (chkCode p.v) 0 (fun u0=>jCR 9 rfl<|retT [nS,I (chkCode p.v)]<|(by have hk:ordV p.v=([],(chkCode p.v)):=(by unfold ordV;rw [if_neg ‹_›]);have v0:=(r0.dropAt 0 rfl);have w0:Sat W _ ([]::H::F):=Sat.nilc v0;have hl:([]:List Int)=(ordV p.v).1:=(by rw [hk]);have B0:=RdT.nil (enc:=Go.E.encI) (sz:=1) fR [[]];rw [hl] at B0;exact ⟨_,_,_,_,(by rw [hk];rfl),B0,w0⟩)) fun u0=>jCC 9 rfl<|loopF [1] (γ:=Nat×(List Int)×SO) (fun ⟨i,zs,G0,D0,H0,J0⟩ R=>⟨[(5, .slice G0 D0 H0)],J0::R,p.stages.n-i,i<=p.stages.n/\(zs.length=i)/\(ordGo (p.inputs.n:Int) (p.stages.l.map Stage.v) (p.stages.l.map Stage.v).length []=ordGo (p.inputs.n:Int) (p.stages.l.map Stage.v) ((p.stages.l.map Stage.v).length-i) zs)/\OwnT Go.E.encI 3 1 G0 D0 H0 zs J0⟩) (0,[],none,0,0,[]) ⟨(Sat.nilc r0),om,by rfl,by rfl,(OwnT.nil (enc:=Go.E.encI) (E:=3) (sz:=1) fR)⟩ ?_
 rintro ⟨i,zs,G0,D0,H0,J0⟩ ρ _ ⟨f0,hi,Q0,hG,A0⟩
 have N0:=A0.ll
 refine gCC f0 11 [1] rfl<|CD ((D0:Int)<(p.stages.n:Int)) (fun z0=>jCR 13 rfl<|retT [.slice G0 D0 H0,I 0]<|(by have hk:ordV p.v=(zs,0):=(by have h0:ordGo p.v.inputs.length p.v.stages p.v.stages.length []=some zs:=(by have h:=hG;rw [show (p.stages.l.map Stage.v).length-i=0 from by simp;omega] at h;rw [<-M0] at h;exact h);unfold ordV;rw [if_pos om,h0]);have a1:=(f0.dropAt 1 rfl);have hl:zs=(ordV p.v).1:=(by rw [hk]);have B0:=(A0.rdAt (cs:=[J0]) 0 rfl);rw [hl] at B0;exact ⟨_,_,_,_,(by rw [hk];rfl),B0,a1⟩)) fun z0=>jCC 15 rfl<|loopF [1,5] (γ:=Nat×Int) (fun ⟨j,nx⟩ R=>⟨[(7,I (j:Int)),(6,I nx)],R,p.stages.n-j,j<=p.stages.n/\((nx=-1/\ordPick (p.inputs.n:Int) zs (p.stages.l.map Stage.v) 0=ordPick (p.inputs.n:Int) zs ((p.stages.l.map Stage.v).drop j) (j:Int))\/(0<=nx/\nx=ordPick (p.inputs.n:Int) zs (p.stages.l.map Stage.v) 0))⟩) (0,-1) ⟨f0,om,by exact .inl ⟨rfl,rfl⟩⟩ ?_
 rintro ⟨j,nx⟩ ρ _ ⟨b0,hj,hP⟩
 refine gCO b0 9 [1] rfl<|sD 28 ((j:Int)<(p.stages.n:Int)) (fun b1=>?_) (fun b1=>?_)
 rotate_left
 ·refine jOC 13 rfl ?_
  have K0:ordPick (p.inputs.n:Int) zs (p.stages.l.map Stage.v) 0=nx:=by
   rcases hP with ⟨h1,h2⟩|⟨h1,h2⟩
   ·rw [h2,List.drop_of_length_le (by simp;omega),h1];rfl
   ·exact h2.symm
  exact jCC 5 rfl<|CD (nx<0) (fun c1=>jCO 5 rfl<|sBK b0 #[I nx] 3 fun _ _ d1=>sApp (nb:=8) d1 A0 1 (RdT.blk (enc:=Go.E.encI) (sz:=1) (xs:=[nx]) fR 1 0 rfl rfl rfl om) underlying22 (i:=Tryz.t3) kr fR fun e1 f1 g1 _ i1 j1=>jOI 3 rfl<|⟨(i+1,(zs++[nx]),e1,(D0+1),f1,g1),od,alB,(j1.dropAt 0 rfl),om,by simp;omega,by rw [hG];exact ordGo_succ K0 om (by simp;omega),i1⟩) fun c1=>jCR 12 rfl<|retT [nS,I 7]<|(by have hk:ordV p.v=([],7):=(by have h0:ordGo p.v.inputs.length p.v.stages p.v.stages.length []=none:=(by have h:=hG;rw [ordGo_none K0 om (by simp;omega)] at h;rw [<-M0] at h;exact h);unfold ordV;rw [if_pos om,h0]);have l1:=(b0.drops [0,0]);have m1:Sat W _ ([]::H::F):=Sat.nilc l1;have hl:([]:List Int)=(ordV p.v).1:=(by rw [hk]);have B0:=RdT.nil (enc:=Go.E.encI) (sz:=1) fR [[]];rw [hl] at B0;exact ⟨_,_,_,_,(by rw [hk];rfl),B0,m1⟩)
 refine jOC 5 rfl<|cD (nx<0) (fun s0=>?_) (fun s0=>?_)
 rotate_left
 ·refine jCC 7 rfl ?_
  have K0:ordPick (p.inputs.n:Int) zs (p.stages.l.map Stage.v) 0=nx:=by
   rcases hP with ⟨h1,h2⟩|⟨h1,h2⟩
   ·rw [h2,List.drop_of_length_le (by simp;omega),h1];rfl
   ·exact h2.symm
  exact jCC 5 rfl<|cF _ (decide_eq_false s0)<|jCO 5 rfl<|sBK b0 #[I nx] 3 fun _ _ n1=>sApp (nb:=8) n1 A0 1 (RdT.blk (enc:=Go.E.encI) (sz:=1) (xs:=[nx]) fR 1 0 rfl rfl rfl om) underlying22 (i:=Tryz.t3) kr fR fun o1 q1 r1 _ s1 t1=>jOI 3 rfl<|⟨(i+1,(zs++[nx]),o1,(D0+1),q1,r1),od,alB,(t1.dropAt 0 rfl),om,by simp;omega,by rw [hG];exact ordGo_succ K0 om (by simp;omega),s1⟩
 refine jCC 5 rfl ?_
 obtain ⟨O0,L0⟩:nx=-1/\ordPick (p.inputs.n:Int) zs (p.stages.l.map Stage.v) 0=ordPick (p.inputs.n:Int) zs ((p.stages.l.map Stage.v).drop j) j:=by
  rcases hP with h|h
  ·exact h
  ·omega
 refine gCO b0 5 [1] rfl<|sAdd (p.inputs.n:Int) (j:Int)<|jOO 7 rfl<|cS (r17_has G0 D0 H0 zs ((p.inputs.n:Int)+(j:Int)) (RdT.flat (A0.rdAt 0 (by rfl))) b0.flat) fun _ g0=>gOO g0 9 [1] rfl<|sIN hp.stages j fun a0 _ _ e0 v1=>sMA g0 (v1.up 2 rfl) 0 (encStage a0)<|cZ (r15_sources a0 ((hp.stagesD a0 (List.mem_of_getElem? e0)).of_mem (mF 2)) g0.flat) ?_
 rintro _ _ ⟨_,i0,_,_,rfl,j0,w1⟩
 have x1:=w1.unflat1
 have I0:=j0.ll
 have y2:1<=(srcs a0.v).length/\(srcs a0.v).length<=2:=srcs_len _
 refine jOC 10 rfl<|loopF [1,5,7,6,8,10] (γ:=Nat×Bool) (fun ⟨k,rd⟩ R=>⟨[(11,I (k:Int)),(9, .bool rd)],R,i0-k,k<=i0/\(rd=(decide (¬((p.inputs.n:Int)+(j:Int))∈zs)&&((srcs a0.v).take k).all (fun x=>decide (x<(p.inputs.n:Int)\/x∈zs))))⟩) (0,(!decide (((p.inputs.n:Int)+(j:Int))∈zs))) ⟨x1,om,by simp⟩ ?_
 rintro ⟨k,rd⟩ ρ _ ⟨c0,hk,hQ⟩
 refine jCC 9 rfl<|CD ((k:Int)<(i0:Int)) (fun y1=>jCC 6 rfl<|(by have B0:rd=(decide (¬((p.inputs.n:Int)+(j:Int))∈zs)&&ordOK (p.inputs.n:Int) zs a0.v):=(by rw [hQ,List.take_of_length_le om];rfl);exact jCC 4 rfl<|CB rd (fun z1=>jCO 5 rfl<|sAdd (j:Int) 1<|jOI 2 rfl<|⟨(j+1,nx),od,alB,(c0.dropAt 0 rfl),om, .inl ⟨O0,by rw [L0,drop_at (map_at (f:=Stage.v) e0),ordPick,if_neg (by rw [<-B0];assumption)];rfl⟩⟩) fun z1=>jCO 8 rfl<|sAdd (j:Int) 1<|jOI 2 rfl<|⟨(j+1,((p.inputs.n:Int)+(j:Int))),od,alB,(c0.dropAt 0 rfl),om, .inr ⟨om,by rw [L0,drop_at (map_at (f:=Stage.v) e0),ordPick,if_pos (by rw [<-B0];assumption)]⟩⟩)) fun y1=>jCC 4 rfl<|bC (rd=true) (fun k0=>drawF c0 [16] (fn) [0,1,2,3,4,6,5,7,8,9,10,11,12,13,14,15,16,17,18,19] fun _ c2=>wV 2<|wFix 56 _ false (Bool.eq_false_iff.2 k0)<|wV 14<|wO rfl<|pu1<|nA<|wV 3<|wN<|jXO 4 rfl<|sAdd (k:Int) 1<|jOI 2 rfl<|⟨(k+1,false),od,alB,c2,om,(all_take_false (hQ.symm.trans (by simpa using (by assumption:¬rd=true)))).symm⟩) fun k0=>?_
 obtain ⟨l0,a3,b3,m0,d0,n0⟩:=RdT.eN j0 k
 exact bD ((l0:Int)<(p.inputs.n:Int)) (fun t0=>drawF c0 [16] (fq 5 0 (d0.up 0 rfl)<|fb 7 2 0 1<|fn) [0,1,2,3,4,6,5,7,8,9,10,11,12,13,14,15,16,17,18,19] fun _ o0=>wV 2<|wFix 56 _ true k0<|wV 2<|wI n0<|wV 1<|wL 0<|wL 1<|wV 3<|wFix 65 _ true (decide_eq_true t0)<|wV 5<|wO rfl<|pu1<|nilO ⟨⟨.inr ((d0.up 0 rfl).cell o0 (k:=0) rfl),cI o0 2,trivial⟩,(wV 3<|wN<|jXO 4 rfl<|sAdd (k:Int) 1<|jOI 2 rfl<|⟨(k+1,true),od,alB,o0,om,by rw [all_take_succ m0,<-Bool.and_assoc,<-hQ,(by assumption:rd=true),Bool.true_and];exact (decide_eq_true (.inl ‹_›)).symm⟩)⟩) fun t0=>drawF c0 [16] (fq 5 0 (d0.up 0 rfl)<|fb 7 2 0 1<|fq 15 0 (d0.up 0 rfl)<|fn) [0,1,2,3,4,6,5,7,8,9,10,11,12,13,14,15,16,17,18,19] fun _ d2=>wV 2<|wFix 56 _ true k0<|wV 2<|wI n0<|wV 1<|wL 0<|wL 1<|wV 3<|wFix 65 _ false (decide_eq_false t0)<|wV 3<|wI n0<|wL 2<|wO rfl<|gY<|cS (r17_has G0 D0 H0 zs l0 (RdT.flat (A0.rdAt 1 (by rfl))) d2.flat) fun _ p0=>nilO ⟨⟨.inr ((d0.up 0 rfl).cell p0 (k:=0) rfl),cI p0 2,dI,trivial⟩,(wV 3<|wN<|jXO 4 rfl<|sAdd (k:Int) 1<|jOI 2 rfl<|⟨(k+1,decide (l0∈zs)),od,alB,p0,om,by rw [all_take_succ m0,<-Bool.and_assoc,<-hQ,(by assumption:rd=true),Bool.true_and];exact decide_eq_decide.2 ⟨fun h=> .inr h,fun h=>h.resolve_left ‹_›⟩⟩)⟩
def shpOf (p:PlaneV):Shape:=⟨p.w,p.h,p.max_⟩
def shpAt (l:List Shape) (i:Int):Shape:=l[i.toNat]?.getD ⟨0,0,0⟩
def stgAt (ss:List StageV) (ni n:Int):StageV:=ss[(n-ni).toNat]?.getD ⟨0,0,0,false,0,0,0,0,[],[],[],0,0,[],[],0,[],0⟩
def shpStep (ni:Int) (ss:List StageV) (n:Int) (out:List Shape):Shape×Int:=
  ofV (stgAt ss ni n) (shpAt out (stgAt ss ni n).a) (if twoP (stgAt ss ni n) then shpAt out (stgAt ss ni n).b else ⟨0,0,0⟩)
def shpGo (ni:Int) (ss:List StageV):List Int->List Shape->List Shape×Int×Int
  |[],out=>(out,0,0)
  |n::l,out=>if (shpStep ni ss n out).2=0 then shpGo ni ss l (out.set n.toNat (shpStep ni ss n out).1) else ([],n,(shpStep ni ss n out).2)
def shpV (j:JobV):List Shape×Int×Int:=
  if (ordV j).2=0 then (if j.inputs.all planeOK=true then shpGo j.inputs.length j.stages (ordV j).1 (j.inputs.map shpOf++List.replicate j.stages.length ⟨0,0,0⟩) else ([],(j.inputs.takeWhile planeOK).length,1)) else ([],0,(ordV j).2)
theorem takeWhile_at {α:Type} {p:α->Bool}:∀{l:List α} {i:Nat} {x:α},(l.take i).all p=true->l[i]?=some x->p x=false->(l.takeWhile p).length=i
  |[],i,x,_,h,_=>by simp at h
  |y::l,0,x,_,h,e=>by simp at h;subst h;simp [e]
  |y::l,i+1,x,h0,h,e=>by
    simp only [List.take_succ_cons,List.all_cons,Bool.and_eq_true] at h0
    rw [List.takeWhile_cons,if_pos h0.1]
    simp only [List.length_cons]
    rw [takeWhile_at h0.2 (by simpa using h) e]
theorem chk_src {j:JobV} (h:chkCode j=0) {s:StageV} (hs:s∈j.stages):(0<=s.a/\s.a<j.inputs.length+j.stages.length)/\(twoP s->0<=s.b/\s.b<j.inputs.length+j.stages.length):=by
  unfold chkCode at h
  split at h
  · split at h
    · split at h
      · rename_i hall
        have h1:=List.all_eq_true.1 hall s hs
        have h2:=fun x hx=>of_decide_eq_true (List.all_eq_true.1 h1 x hx)
        constructor
        · exact h2 s.a (by unfold srcs;split<;>simp)
        · intro ht;exact h2 s.b (by unfold srcs;rw [if_pos ht];simp)
      · omega
    · omega
  · omega
theorem r17_of (p:Plane) (hp:Plane.Ok [H] p) (hS:Sat W w (H::F)):
  Ro prog 21 #[.agg (encPlane p).toArray] (.agg #[I p.w,I p.h,I p.max_]) W w (H::F):=by
 have d0:=hp.pix.ll
 exact callsK 10 func21 rfl<|jCO 2 rfl<|sBx hS (encPlane p) fun _ _ c0=>sAlloc c0 zeroValue65 fun _ _ a0=>gOO a0 11 [1,1,1] rfl<|sTk a0 0 rfl [I p.w,I p.h,I p.max_] fun _ b0=>jOR 3 rfl<|retN (vs:=[.agg #[I p.w,I p.h,I p.max_]]) rfl (.cons (.cell _ _ _ _ kr (lvA b0 0 0 [I p.w,I p.h,I p.max_] (isAgg65 _) (sizeOf65 _) rfl rfl rfl)) .nil)<|⟨rfl,(b0.drops [0,0])⟩
theorem r17_shapes (p:Job) (hp:Job.Ok [H] p) (hb:p.inputs.n<=1000000/\p.stages.n<=1000000/\p.outputs.n<=1000000) (hS:Sat W w (H::F)):
  Calls prog 72 #[.agg (encJob p).toArray] w fun e w'=>∃(az:Option Addr) (nz kz:Nat) (G:Chunk),e= .returned (.tuple #[.slice az nz kz,I ((shpV p.v).2.1),I ((shpV p.v).2.2)])/\RdT encShape 3 [G] az nz kz ((shpV p.v).1)/\Sat W w' (G::H::F):=by
 have I0:=hp.inputs.le;have A0:=hp.inputs.len
 have J0:=hp.stages.le;have B0:=hp.stages.len
 have H0:=hp.outputs.ll
 have D1:(p.inputs.l.map Plane.v).length=p.inputs.n:=by simp [A0]
 have E1:(p.stages.l.map Stage.v).length=p.stages.n:=by simp [B0]
 refine callsK 106 func72 rfl<|jCO 2 rfl<|sBx hS (encJob p) fun _ _ w0=>gOO w0 8 [400] rfl<|cZ (r17_order p (hp.of_mem (mF 1)) (od) w0.flat) ?_
 rintro _ _ ⟨_,q0,_,_,rfl,l0,g1⟩
 have r0:=g1.unflat1
 have X0:=l0.ll
 refine jOC 14 rfl<|CN ((ordV p.v).2) 0 (fun h1=>jCR 10 rfl<|retT [nS,I 0,I ((ordV p.v).2)]<|(by have hk:shpV p.v=([],0,(ordV p.v).2):=(by unfold shpV;rw [if_neg ‹_›]);have i1:=(r0.drops [0,0]);have j1:Sat W _ ([]::H::F):=Sat.nilc i1;have hl:([]:List Shape)=(shpV p.v).1:=(by rw [hk]);have F0:=RdT.nil (enc:=encShape) (sz:=3) fR [[]];rw [hl] at F0;exact ⟨_,_,_,_,(by rw [hk];rfl),F0,j1⟩)) fun h1=>gCO r0 10 [1,1] rfl<|sAdd (p.inputs.n:Int) (p.stages.n:Int)<|sMake (kl:= .i64) (kc:= .i64) (enc:=encShape) (sz:=3) (nb:=24) r0 ⟨0,0,0⟩ (((p.inputs.n:Int)+(p.stages.n:Int))).toNat ((p.inputs.n:Int)+(p.stages.n:Int)) (om:((p.inputs.n:Int)+(p.stages.n:Int))=(((((p.inputs.n:Int)+(p.stages.n:Int))).toNat:Nat):Int)) underlying79 (i:=Tryz.t65) kr fR fun k1 l1 _ m1 n1=>jOC 10 rfl<|loopF [1,5] (γ:=Nat×(List Shape)×SO) (fun ⟨i,zs,P0,U0,S0,W0⟩ R=>⟨[(8,I (i:Int)),(7, .slice P0 U0 S0)],W0::R,p.inputs.n-i,i<=p.inputs.n/\(zs=((p.inputs.l.map Plane.v).take i).map shpOf++List.replicate (p.inputs.n+p.stages.n-i) ⟨0,0,0⟩)/\(((p.inputs.l.map Plane.v).take i).all planeOK=true)/\(zs.length=p.inputs.n+p.stages.n)/\OwnT encShape 65 3 P0 U0 S0 zs W0⟩) (0,(List.replicate (((p.inputs.n:Int)+(p.stages.n:Int))).toNat ⟨0,0,0⟩),(At k1 0),(((p.inputs.n:Int)+(p.stages.n:Int))).toNat,(((p.inputs.n:Int)+(p.stages.n:Int))).toNat,l1) ⟨n1,om,by simp;omega,by rfl,by simp;omega,m1⟩ ?_
 rintro ⟨i,zs,P0,U0,S0,W0⟩ ρ _ ⟨m0,hi,hZ,hV,O1,G0⟩
 have G1:=G0.ll
 refine gCC m0 10 [2] rfl<|cD ((i:Int)<(p.inputs.n:Int)) (fun o1=>gCO m0 10 [2] rfl<|sIN hp.inputs i fun d0 _ _ i0 q1=>sMA m0 (q1.up 3 rfl) 0 (encPlane d0)<|cS (r4_valid d0 ⟨(RdT.flat ((hp.inputsD d0 (List.mem_of_getElem? i0)).pix.up 3 (by rfl)))⟩ m0.flat) fun _ n0=>jOC 3 rfl<|CBn (planeOK d0.v) (fun r1=>jCR 15 rfl<|retT [nS,I (i:Int),I 1]<|(by have Z0:(p.inputs.l.map Plane.v).all planeOK=false:=all_false_at (map_at (f:=Plane.v) i0) (by simpa using (by assumption:¬planeOK d0.v=true));have M1:((p.inputs.l.map Plane.v).takeWhile planeOK).length=i:=takeWhile_at hV (map_at (f:=Plane.v) i0) (by simpa using (by assumption:¬planeOK d0.v=true));have hk:shpV p.v=([],(i:Int),1):=(by unfold shpV;rw [if_pos ‹_›,if_neg (by exact fun h=>Bool.false_ne_true (Z0.symm.trans h))];exact congrArg (fun n:Nat=>(([]:List Shape),(n:Int),(1:Int))) M1);have s1:=(n0.drops [0,0,0]);have t1:Sat W _ ([]::H::F):=Sat.nilc s1;have hl:([]:List Shape)=(shpV p.v).1:=(by rw [hk]);have F0:=RdT.nil (enc:=encShape) (sz:=3) fR [[]];rw [hl] at F0;exact ⟨_,_,_,_,(by rw [hk];rfl),F0,t1⟩)) fun r1=>gCO n0 8 [2] rfl<|sIN hp.inputs i fun u1 _ _ s0 v1=>(by obtain rfl:d0=u1:=Option.some.inj (i0.symm.trans s0);exact sMA n0 (v1.up 3 rfl) 0 (encPlane d0)<|cS (r17_of d0 ⟨(RdT.flat ((hp.inputsD d0 (List.mem_of_getElem? s0)).pix.up 3 (by rfl)))⟩ n0.flat) fun _ w1=>sIO G0 (i:Int) i fun x1 _ _ y1 _ z1=>sStF w1 G0 z1 0 i 0 x1 (⟨d0.w,d0.h,d0.max_⟩:Shape) y1 (.agg #[I d0.w,I d0.h,I d0.max_]) [I d0.w,I d0.h,I d0.max_] sizeOf65 fun _ a2 b2 c2=>jOO 5 rfl<|sAdd (i:Int) 1<|jOI 2 rfl<|⟨(i+1,(zs.set i (⟨d0.w,d0.h,d0.max_⟩:Shape)),P0,U0,S0,a2),od,alB,c2,om,by rw [hZ];exact set_rep (f:=shpOf) (map_at (f:=Plane.v) i0) om,all_succ hV (map_at (f:=Plane.v) i0) ‹_›,by simp;omega,b2⟩)) fun o1=>?_
 refine jCC 7 rfl ?_
 have Q0:(p.inputs.l.map Plane.v).all planeOK=true:=all_of_take hV (by simp;omega)
 have C1:zs=(p.inputs.l.map Plane.v).map shpOf++List.replicate p.stages.n ⟨0,0,0⟩:=by rw [hZ,List.take_of_length_le (by simp;omega)];congr 2;omega
 have E0:=ordV_range (j:=p.v) om;have A1:=ordV_chk (j:=p.v) om
 refine jCC 5 rfl<|loopF [1,5] (γ:=Nat×(List Shape)×SO) (fun ⟨i,ys,O0,T0,R0,V0⟩ R=>⟨[(9,I (i:Int)),(7, .slice O0 T0 R0)],V0::R,q0-i,i<=q0/\(shpGo (p.inputs.n:Int) (p.stages.l.map Stage.v) ((ordV p.v).1) zs=shpGo (p.inputs.n:Int) (p.stages.l.map Stage.v) (((ordV p.v).1).drop i) ys)/\(ys.length=p.inputs.n+p.stages.n)/\OwnT encShape 65 3 O0 T0 R0 ys V0⟩) (0,zs,P0,U0,S0,W0) ⟨m0,om,by rfl,by rw [C1];simp;omega,G0⟩ ?_
 rintro ⟨i,ys,O0,T0,R0,V0⟩ ρ _ ⟨x0,hi,Y0,N1,D0⟩
 have F1:=D0.ll
 refine jCC 9 rfl<|CD ((i:Int)<(q0:Int)) (fun d2=>jCR 14 rfl<|retT [.slice O0 T0 R0,I 0,I 0]<|(by have B1:shpV p.v=shpGo (p.inputs.n:Int) (p.stages.l.map Stage.v) ((ordV p.v).1) zs:=(by unfold shpV;rw [if_pos ‹_›,if_pos (by exact Q0)];rw [C1,<-E1,<-D1];rfl);have hk:shpV p.v=(ys,0,0):=(by rw [B1,Y0,List.drop_of_length_le om];rfl);have e2:=(x0.drops [1,1]);have hl:ys=(shpV p.v).1:=(by rw [hk]);have F0:=(D0.rdAt (cs:=[V0]) 0 rfl);rw [hl] at F0;exact ⟨_,_,_,_,(by rw [hk];rfl),F0,e2⟩)) fun d2=>jCC 5 rfl ?_
 obtain ⟨c0,i4,j4,j0,y0,f2⟩:=RdT.eN l0 i
 have C0:(p.inputs.n:Int)<=c0/\c0<(p.inputs.n:Int)+(p.stages.n:Int):=by have h:=E0 c0 (List.mem_of_getElem? j0);simp only [Job.v] at h;omega
 obtain ⟨a0,k4,l4,k0,f0,g2⟩:=RdT.elem hp.stages (c0-(p.inputs.n:Int))
 obtain ⟨I1,K1⟩:=chk_src A1 (s:=a0.v) (List.mem_map_of_mem (List.mem_of_getElem? k0))
 have J1:0<=a0.a/\a0.a<(p.inputs.n:Int)+(p.stages.n:Int):=by simp only [Job.v,Stage.v] at I1;omega
 have L1:(a0.kind=6/\¬a0.b=-1)->0<=a0.b/\a0.b<(p.inputs.n:Int)+(p.stages.n:Int):=by intro h;have h2:=K1 (by unfold twoP;simp only [Stage.v];exact h);simp only [Job.v,Stage.v] at h2;omega
 refine drawF x0 [12,13] (fb 1 2 1 1<|fq 5 0 (y0.up 1 rfl)<|fb 7 2 0 1<|fp 11 (f0.up 3 rfl)<|fn) [0,2,3,4,6,1,5,7,8,9,10,11,12,13] fun _ i2=>wV 3<|wI f2<|wV 1<|wL 0<|wL 1<|wL 2<|wV 1<|wSub c0 (p.inputs.n:Int)<|wI g2<|wG 3 18<|wO rfl<|sAlloc i2 zeroValue53 fun _ _ e0=>nilO ⟨⟨cI e0 3, .inr ((y0.up 2 rfl).cell e0 (k:=0) rfl),cI e0 3, .inr ((f0.up 4 rfl).cell e0 (k:=0) rfl), .inr ((f0.up 4 rfl).cell e0 (k:=1) rfl), .inr ((f0.up 4 rfl).cell e0 (k:=2) rfl), .inr ((f0.up 4 rfl).cell e0 (k:=3) rfl), .inr ((f0.up 4 rfl).cell e0 (k:=4) rfl), .inr ((f0.up 4 rfl).cell e0 (k:=5) rfl), .inr ((f0.up 4 rfl).cell e0 (k:=6) rfl), .inr ((f0.up 4 rfl).cell e0 (k:=7) rfl), .inr ((f0.up 4 rfl).cell e0 (k:=8) rfl), .inr ((f0.up 4 rfl).cell e0 (k:=9) rfl), .inr ((f0.up 4 rfl).cell e0 (k:=10) rfl), .inr ((f0.up 4 rfl).cell e0 (k:=11) rfl), .inr ((f0.up 4 rfl).cell e0 (k:=12) rfl), .inr ((f0.up 4 rfl).cell e0 (k:=13) rfl), .inr ((f0.up 4 rfl).cell e0 (k:=14) rfl), .inr ((f0.up 4 rfl).cell e0 (k:=15) rfl), .inr ((f0.up 4 rfl).cell e0 (k:=16) rfl), .inr ((f0.up 4 rfl).cell e0 (k:=17) rfl),trivial⟩,?_⟩
 refine wO rfl<|sTk e0 0 rfl (encStage a0) fun _ j2=>nA<|wN<|jXO 4 rfl<|sAlloc j2 zeroValue65 fun k2 _ l2=>sTk l2 0 rfl [I 0,I 0,I 0] fun _ t0=>jOC 2 rfl<|cutF t0 1 [1,5,9,7,10,11] (γ:=Shape) (fun yb R=>⟨[],[(k2, .cells #[I yb.w,I yb.h,I yb.max_] 65 (0,0))]::R,0,(if twoP a0.v then shpAt ys a0.v.b else ⟨0,0,0⟩)=yb⟩) ?_ ?_
 ·exact gCO t0 3 [1801] rfl<|cS (r15_two a0 ((hp.stagesD a0 (List.mem_of_getElem? k0)).of_mem (mF 5)) t0.flat) fun _ o0=>jOC 2 rfl<|CD (a0.kind=6/\¬a0.b=-1) (fun m2=>jCI 1 rfl<|⟨(⟨0,0,0⟩:Shape),alB,o0,(if_neg (by unfold twoP;simp only [Stage.v];assumption))⟩) fun m2=>gCO o0 4 [1] rfl<|sIO D0 a0.b (a0.b).toNat fun h0 _ _ n2 o2 _=>sMA o0 (o2.up 2 rfl) 0 [I h0.w,I h0.h,I h0.max_]<|sTk o0 0 rfl [I h0.w,I h0.h,I h0.max_] fun _ q2=>jOI 1 rfl<|⟨h0,alB,q2,(by rw [if_pos (by unfold twoP;simp only [Stage.v];assumption)];unfold shpAt;rw [show ys[a0.v.b.toNat]?=some h0 from n2];rfl)⟩
 rintro yb ρ _ ⟨z0,H1⟩
 refine cutF z0 0 [1,5,9,7] (γ:=Nat×Shape) (fun ⟨b9,ya⟩ R=>⟨[(12,Pt b9 0),(13,I ((ofV a0.v ya yb).2))],[(b9, .cells #[I ((ofV a0.v ya yb).1.w),I ((ofV a0.v ya yb).1.h),I ((ofV a0.v ya yb).1.max_)] 65 (0,0))]::R,0,shpStep (p.inputs.n:Int) (p.stages.l.map Stage.v) c0 ys=ofV a0.v ya yb⟩) ?_ ?_
 rotate_left
 ·rintro ⟨b9,ya⟩ ρ _ ⟨a1,N0⟩
  refine jCC 7 rfl<|CN ((ofV a0.v ya yb).2) 0 (fun r2=>jCC 1 rfl<|(by obtain ⟨s2,y4,z4,u0,t2,u2⟩:=RdT.eN l0 i;obtain rfl:c0=s2:=Option.some.inj (j0.symm.trans u0);have C0:(p.inputs.n:Int)<=c0/\c0<(p.inputs.n:Int)+(p.stages.n:Int):=(by have h:=E0 c0 (List.mem_of_getElem? u0);simp only [Job.v] at h;omega);refine drawF a1 [] (fq 3 0 (t2.up 4 rfl)<|fn) [0,1,2,4,5,3,6,7] fun _ v2=>wV 2<|wI u2<|wV 2<|wL 0<|wV 2<|wN<|jXR 8 rfl<|retT [nS,I c0,I ((ofV a0.v ya yb).2)] ?_;have B1:shpV p.v=shpGo (p.inputs.n:Int) (p.stages.l.map Stage.v) ((ordV p.v).1) zs:=(by unfold shpV;rw [if_pos ‹_›,if_pos (by exact Q0)];rw [C1,<-E1,<-D1];rfl);have hk:shpV p.v=([],c0,(ofV a0.v ya yb).2):=(by rw [B1,Y0,drop_at j0,shpGo,N0,if_neg ‹_›]);have w2:=(v2.drops [0,0,0,0,0,0]);have x2:Sat W _ ([]::H::F):=Sat.nilc w2;have hl:([]:List Shape)=(shpV p.v).1:=(by rw [hk]);have F0:=RdT.nil (enc:=encShape) (sz:=3) fR [[]];rw [hl] at F0;exact ⟨_,_,_,_,(by rw [hk];rfl),F0,x2⟩)) fun r2=>?_
  refine jCC 2 rfl ?_
  obtain ⟨y2,a5,b5,v0,z2,a3⟩:=RdT.eN l0 i
  obtain rfl:c0=y2:=Option.some.inj (j0.symm.trans v0)
  have C0:(p.inputs.n:Int)<=c0/\c0<(p.inputs.n:Int)+(p.stages.n:Int):=by have h:=E0 c0 (List.mem_of_getElem? v0);simp only [Job.v] at h;omega
  obtain ⟨b3,c5,d5,c3,e5,d3,e3⟩:=OwnT.elem D0 c0
  exact drawF a1 [7] (fq 4 0 (z2.up 4 rfl)<|fb 5 0 0 3<|fn) [0,1,2,3,4,5,6,7] fun _ f3=>wV 3<|wI a3<|wL 0<|wG 1 3<|wI d3<|wO rfl<|sStF f3 D0 e3 3 (c0).toNat 0 b3 (⟨(ofV a0.v ya yb).1.w,(ofV a0.v ya yb).1.h,(ofV a0.v ya yb).1.max_⟩:Shape) c3 (.agg #[I ((ofV a0.v ya yb).1.w),I ((ofV a0.v ya yb).1.h),I ((ofV a0.v ya yb).1.max_)]) [I ((ofV a0.v ya yb).1.w),I ((ofV a0.v ya yb).1.h),I ((ofV a0.v ya yb).1.max_)] sizeOf65 fun _ g3 h3 i3=>nA<|wN<|jXO 4 rfl<|sAdd (i:Int) 1<|jOI 2 rfl<|⟨(i+1,(ys.set ((c0).toNat) (⟨(ofV a0.v ya yb).1.w,(ofV a0.v ya yb).1.h,(ofV a0.v ya yb).1.max_⟩:Shape)),O0,T0,R0,g3),od,alB,(i3.drops [0,0,0]),om,by rw [Y0,drop_at j0,shpGo,N0,if_pos ‹_›],by simp;omega,h3⟩
 obtain ⟨g0,g5,h5,b1,p0,k3,i5⟩:=OwnT.elem D0 a0.a
 refine drawG z0 [7,11,12] (fb 0 1 0 18<|fb 3 1 1 1<|fp 5 (p0.up 2 rfl)<|fb 6 0 0 3<|fn) (pS [1,2,0,3,4,5,6]<| .fk 7 11 (pS [8,9,10]<| .ef 11<| .ef 12<|pS [13]<| .fin) (.ef 7<|pS [8,9,10]<| .ef 12<|pS [13]<| .fin)) fun _ c1=>qV 2<|qG 0 18<|qL 18<|qI k3<|qG 19 3<|qG 22 3<|qF ?_ ?_
 · exact qO rfl<|cS (r15_of a0 g0 yb ((hp.stagesD a0 (List.mem_of_getElem? k0)).of_mem (mF 5)) c1.flat) fun _ d1=>nZ d1 [1]<|qV 1<|qV 1<|qV 1<|qO rfl<|sAlloc d1 zeroValue65 fun l3 _ e1=>nZ e1 [2]<|qO rfl<|sTk e1 0 rfl [I ((ofV a0.v g0 yb).1.w),I ((ofV a0.v g0 yb).1.h),I ((ofV a0.v g0 yb).1.max_)] fun _ m3=>nA<|qV 1<|qN<|jXI 0 rfl<|(by have M0:stgAt (p.stages.l.map Stage.v) (p.inputs.n:Int) c0=a0.v:=(by unfold stgAt;rw [map_at (f:=Stage.v) k0];rfl);have K0:shpAt ys a0.v.a=g0:=(by unfold shpAt;rw [show ys[a0.v.a.toNat]?=some g0 from b1];rfl);have L0:=H1;have N0:shpStep (p.inputs.n:Int) (p.stages.l.map Stage.v) c0 ys=ofV a0.v g0 yb:=(by unfold shpStep;rw [M0,K0,L0]);exact ⟨(l3,g0),alB,m3,N0⟩)
 refine qO rfl<|sAlloc c1 zeroValue65 fun n3 _ b0=>nilO ⟨⟨cI b0 2,cI b0 2,cI b0 2,cI b0 2,cI b0 2,cI b0 2,cI b0 2,cI b0 2,cI b0 2,cI b0 2,cI b0 2,cI b0 2,cI b0 2,cI b0 2,cI b0 2,cI b0 2,cI b0 2,cI b0 2,cI b0 2, .inr ((p0.up 3 rfl).cell b0 (k:=0) rfl), .inr ((p0.up 3 rfl).cell b0 (k:=1) rfl), .inr ((p0.up 3 rfl).cell b0 (k:=2) rfl),cI b0 1,cI b0 1,cI b0 1,trivial⟩,?_⟩
 refine qO rfl<|cS (r15_of a0 g0 yb ((hp.stagesD a0 (List.mem_of_getElem? k0)).of_mem (mF 6)) b0.flat) fun _ f1=>nZ f1 [2]<|qV 1<|qV 1<|qV 1<|qO rfl<|sTk f1 0 rfl [I ((ofV a0.v g0 yb).1.w),I ((ofV a0.v g0 yb).1.h),I ((ofV a0.v g0 yb).1.max_)] fun _ o3=>nA<|qV 1<|qN<|jXI 0 rfl ?_
 have M0:stgAt (p.stages.l.map Stage.v) (p.inputs.n:Int) c0=a0.v:=by unfold stgAt;rw [map_at (f:=Stage.v) k0];rfl
 have K0:shpAt ys a0.v.a=g0:=by unfold shpAt;rw [show ys[a0.v.a.toNat]?=some g0 from b1];rfl
 have L0:=H1
 have N0:shpStep (p.inputs.n:Int) (p.stages.l.map Stage.v) c0 ys=ofV a0.v g0 yb:=by unfold shpStep;rw [M0,K0,L0]
 exact ⟨(n3,g0),alB,o3,N0⟩
theorem r17_checkj (p:Job) (hp:Job.Ok [H] p) (hb:p.inputs.n<=1000000/\p.stages.n<=1000000/\p.outputs.n<=1000000) (hS:Sat W w (H::F)):
  Ro prog 32 #[.agg (encJob p).toArray] (.tuple #[I ((shpV p.v).2.1),I ((shpV p.v).2.2)]) W w (H::F):=by
 have f0:=hp.inputs.ll
 have g0:=hp.stages.ll
 have e0:=hp.outputs.ll
 refine callsK 15 func32 rfl<|jCO 2 rfl<|sBx hS (encJob p) fun _ _ a0=>gOO a0 7 [400] rfl<|cZ (r17_shapes p (hp.of_mem (mF 1)) (od) a0.flat) ?_
 rintro _ _ ⟨_,_,_,_,rfl,b0,c0⟩
 have d0:=c0.unflat1
 have h0:=b0.ll
 exact jOR 18 rfl<|retT [I ((shpV p.v).2.1),I ((shpV p.v).2.2)]<|⟨rfl,(d0.drops [0,0])⟩
end Go.Proofs.YtghcddbhllkbmaaGreat

namespace Go.E
section
variable {p:Nat} {E:TypeId} {pre mid post:List Value}
end
theorem at_some {α:Type} {xs:List α} {n k:Nat} (h:xs.length=n) (hk:k<n):∃x,xs[k]?=some x:=⟨xs[k]'(by omega),by simp [show k<xs.length by omega]⟩
section
variable {P:Program} {W w:World} {cs:List Chunk} {ρ:Env} {o:Oper} {ops:Array Oper} {rest:List Oper} {n:Nat} {N:Env->World->Prop}
end
def Obs {π σ:Type} (R:π->σ->Chunk->Prop) (ps:List π) (ss:List σ) (cs:List Chunk):Prop:=
  ps.length=ss.length/\cs.length=ss.length/\∀(i:Nat) p s c,ps[i]?=some p->ss[i]?=some s->cs[i]?=some c->R p s c
theorem Obs.set {π σ:Type} {R:π->σ->Chunk->Prop} {ps:List π} {ss:List σ} {cs:List Chunk} (h:Obs R ps ss cs) {i:Nat} {p:π} {s:σ} {c:Chunk} (hp:ps[i]?=some p) (hR:R p s c):Obs R ps (ss.set i s) (cs.set i c):=by
  refine ⟨by simp [h.1],by simp [h.2.1],fun j q t d hq ht hd=>?_⟩
  by_cases a0:i=j
  · subst a0
    rw [hp] at hq;cases hq
    rw [List.getElem?_set] at ht hd
    simp only [if_true] at ht hd
    split at ht
    · cases ht
      split at hd
      · cases hd;exact hR
      · cases hd
    · cases ht
  · exact (by rw [List.getElem?_set_ne a0] at ht hd;exact h.2.2 j q t d hq ht hd)
theorem Obs.snoc {π σ:Type} {R:π->σ->Chunk->Prop} {ps:List π} {ss:List σ} {cs:List Chunk} (h:Obs R ps ss cs) {p:π} {s:σ} {c:Chunk} (hR:R p s c):Obs R (ps++[p]) (ss++[s]) (cs++[c]):=by
 have h1:=h.1;have h2:=h.2.1
 refine ⟨by simp [h1],by simp [h2],fun j q t d hq ht hd=>?_⟩
 by_cases hj:j<ss.length
 · exact (by rw [List.getElem?_append_left om] at hq ht hd;exact h.2.2 j q t d hq ht hd)
 · exact (by have a0:j=ss.length:=(by have:=(List.getElem?_eq_some_iff.1 ht).1;simp at this;omega);rw [List.getElem?_append_right om] at hq ht hd;rw [show j-ps.length=0 by omega] at hq;rw [show j-ss.length=0 by omega] at ht;rw [show j-cs.length=0 by omega] at hd;simp at hq ht hd;subst hq ht hd;exact hR)
theorem Obs.nil {π σ:Type} (R:π->σ->Chunk->Prop):Obs R [] [] []:=⟨rfl,rfl,fun i p s c h=>by simp at h⟩
end Go.E
namespace Go.Proofs.YtghcddbhllkbmaaGreat
open Go Go.E Go.Proofs.Tryz
set_option linter.all false
set_option maxRecDepth 100000
set_option maxHeartbeats 2000000
variable {W w:World} {H:Chunk} {F:List Chunk}
def okG (ni:Int) (out:List Int) (s:List Int):Bool:=s.all fun x=>decide (x<ni\/x∈out)
def pickG (ni:Int) (out:List Int):List (List Int)->Int->Int
  |[],_=>-1
  |s::l,i=>if (decide (¬(ni+i)∈out)&&okG ni out s)=true then ni+i else pickG ni out l (i+1)
def goG (ni:Int) (D:List (List Int)):Nat->List Int->Option (List Int)
  |0,out=>some out
  |k+1,out=>if pickG ni out D 0<0 then none else goG ni D k (out++[pickG ni out D 0])
def canG (ni:Int) (D:List (List Int)) (out:List Int) (i:Nat):Prop:=∃s,D[i]?=some s/\¬(ni+((i:Nat):Int))∈out/\∀x∈s,x<ni\/x∈out
theorem ok_iff {ni:Int} {out s:List Int}:okG ni out s=true↔∀x∈s,x<ni\/x∈out:=by
  unfold okG;rw [List.all_eq_true];simp only [decide_eq_true_eq]
theorem pick_spec {ni:Int} (hni:0<=ni) {out:List Int} {D:List (List Int)}:∀(l:List (List Int)) (i:Nat),D.drop i=l->
  (pickG ni out l (i:Int)<0/\∀k,i<=k->¬canG ni D out k)\/(∃k:Nat,i<=k/\pickG ni out l (i:Int)=ni+(k:Int)/\canG ni D out k/\∀m,i<=m->m<k->¬canG ni D out m)
 |[],i,h=>by
  left
  refine ⟨by unfold pickG;omega,?_⟩
  rintro k hk ⟨s,hs,_⟩
  have h1:=(List.getElem?_eq_some_iff.1 hs).1
  have h2:=congrArg List.length h
  rw [List.length_drop] at h2
  simp only [List.length_nil] at h2;omega
 |s::l,i,h=>by
  have hs:D[i]?=some s:=(by have h1:=congrArg (fun x=>x[0]?) h;simpa [List.getElem?_drop] using h1)
  have hl:D.drop (i+1)=l:=(by have h1:=congrArg List.tail h;simpa [List.tail_drop] using h1)
  unfold pickG
  by_cases hc:(decide (¬(ni+(i:Int))∈out)&&okG ni out s)=true
  · exact (by right;rw [if_pos hc];rw [Bool.and_eq_true,decide_eq_true_eq,ok_iff] at hc;exact ⟨i,Nat.le_refl _,rfl,⟨s,hs,hc.1,hc.2⟩,fun m h1 h2=>by omega⟩)
  ·rw [if_neg hc]
   have hno:¬canG ni D out i:=(by rintro ⟨s',hs',h1,h2⟩;rw [hs] at hs';obtain rfl:=Option.some.inj hs';apply hc;rw [Bool.and_eq_true,decide_eq_true_eq,ok_iff];exact ⟨h1,h2⟩)
   have ih:=pick_spec hni (out:=out) (D:=D) l (i+1) hl
   rw [show (((i+1:Nat)):Int)=(i:Int)+1 by omega] at ih
   rcases ih with ⟨h1,h2⟩|⟨k,h1,h2,h3,h4⟩
   ·left
    refine ⟨h1,fun k hk=>?_⟩
    by_cases e:k=i
    ·rw [e];exact hno
    ·exact h2 k om
   ·right
    refine ⟨k,om,h2,h3,fun m hm1 hm2=>?_⟩
    by_cases e:m=i
    ·rw [e];exact hno
    ·exact h4 m om hm2
theorem pick0 {ni:Int} (hni:0<=ni) {out:List Int} {D:List (List Int)}:
    (pickG ni out D 0<0/\∀k,¬canG ni D out k)\/(∃k:Nat,pickG ni out D 0=ni+(k:Int)/\canG ni D out k/\∀m,m<k->¬canG ni D out m):=by
  rcases pick_spec hni (out:=out) D 0 rfl with ⟨h1,h2⟩|⟨k,_,h2,h3,h4⟩
  · exact .inl ⟨h1,fun k=>h2 k (Nat.zero_le _)⟩
  · exact .inr ⟨k,h2,h3,fun m hm=>h4 m (Nat.zero_le _) hm⟩
def listG (ni:Int) (D:List (List Int)):Nat->List Int->List Int
  |0,out=>out
  |k+1,out=>if pickG ni out D 0<0 then out else listG ni D k (out++[pickG ni out D 0])
structure OutG (ni:Int) (D:List (List Int)) (out:List Int):Prop where
  r:∀x∈out,ni<=x/\x<ni+((D.length:Nat):Int)
  d:out.Nodup
theorem OutG.nil {ni:Int} {D:List (List Int)}:OutG ni D []:=⟨(fun x hx=>by cases hx),List.nodup_nil⟩
theorem OutG.add {ni:Int} {D:List (List Int)} {out:List Int} {k:Nat} (h:OutG ni D out) (hc:canG ni D out k):OutG ni D (out++[ni+(k:Int)]):=by
  obtain ⟨s,hs,h1,_⟩:=hc
  have hk:=(List.getElem?_eq_some_iff.1 hs).1
  refine ⟨fun x hx=>?_,?_⟩
  · rcases List.mem_append.1 hx with h2|h2
    · exact h.r x h2
    · rw [List.mem_singleton.1 h2];omega
  · exact (by rw [List.nodup_append];refine ⟨h.d,by simp,?_⟩;intro a ha b hb;rw [List.mem_singleton.1 hb];rintro rfl;exact h1 ha)
theorem nodup_le {n:Nat}:∀{m:Nat} {l:List Nat},l.Nodup->(∀x∈l,x<n)->l.length=m->m<=n:=by
 induction n with
 |zero=>
  intro m l _ h2 h3
  cases l with
  |nil=>simp at h3;omega
  |cons x l=>have:=h2 x List.mem_cons_self;omega
 |succ n ih=>
  intro m l h1 h2 h3
  have h4:=ih (m:=(l.filter (fun x=>decide (x≠n))).length) (l:=l.filter (fun x=>decide (x≠n))) (h1.filter _) (fun x hx=>by
   have:=List.mem_filter.1 hx
   have h5:=h2 x this.1
   have h6:=of_decide_eq_true this.2
   omega) rfl
  have h5:l.length<=(l.filter (fun x=>decide (x≠n))).length+1:=by
   clear h2 h3 h4 ih
   induction l with
   |nil=>simp
   |cons y l ih2=>
    rw [List.nodup_cons] at h1
    rw [List.filter_cons]
    by_cases e:y=n
    · exact (by subst e;rw [if_neg (by simp)];have h7:l.filter (fun x=>decide (x≠y))=l:=(by rw [List.filter_eq_self];intro z hz;refine decide_eq_true ?_;rintro rfl;exact h1.1 hz);rw [h7];simp)
    · exact (by rw [if_pos (by simpa using e)];have:=ih2 h1.2;simp only [List.length_cons];omega)
  omega
theorem OutG.len {ni:Int} {D:List (List Int)} {out:List Int} (h:OutG ni D out):out.length<=D.length:=by
  have h1:(out.map fun x=>(x-ni).toNat).Nodup:=by
    rw [List.nodup_iff_pairwise_ne,List.pairwise_map]
    refine (List.nodup_iff_pairwise_ne.1 h.d).imp_of_mem ?_
    intro a b ha hb hab
    have:=h.r a ha;have:=h.r b hb;omega
  have:=nodup_le (n:=D.length) h1 (fun x hx=>by
    obtain ⟨y,hy,rfl⟩:=List.mem_map.1 hx
    have:=h.r y hy;omega) (List.length_map _)
  omega
theorem go_list {ni:Int} (hni:0<=ni) {D:List (List Int)}:∀(k:Nat) {out:List Int},OutG ni D out->out.length+k=D.length->
  ((goG ni D k out=some (listG ni D (k+1) out)/\(listG ni D (k+1) out).length=D.length)\/(goG ni D k out=none/\(listG ni D (k+1) out).length<D.length))/\OutG ni D (listG ni D (k+1) out)
 |0,out,h,hl=>by
  have e:listG ni D 1 out=out:=by
   unfold listG
   split
   ·rfl
   ·rename_i hp
    rcases pick0 hni (out:=out) (D:=D) with h1|⟨k,h1,h2,_⟩
    ·exact absurd h1.1 hp
    · exact (by have:=(h.add h2).len;rw [List.length_append,List.length_singleton] at this;omega)
  rw [e]
  exact ⟨.inl ⟨rfl,om⟩,h⟩
 |k+1,out,h,hl=>by
  unfold goG listG
  rcases pick0 hni (out:=out) (D:=D) with h1|⟨m,h1,h2,_⟩
  · exact (by rw [if_pos h1.1,if_pos h1.1];exact ⟨.inr ⟨rfl,om⟩,h⟩)
  · exact (by rw [if_neg om,if_neg om,h1];exact go_list hni k (h.add h2) (by rw [List.length_append,List.length_singleton];omega))
theorem pick_ord {ni:Int} {out:List Int}:∀(ss:List StageV) (i:Int),ordPick ni out ss i=pickG ni out (ss.map srcs) i
  |[],_=>rfl
  |s::l,i=>by
    unfold ordPick
    rw [List.map_cons]
    unfold pickG
    rw [pick_ord l (i+1)];rfl
theorem go_ord {ni:Int} {ss:List StageV}:∀(k:Nat) (out:List Int),ordGo ni ss k out=goG ni (ss.map srcs) k out
  |0,_=>rfl
  |k+1,out=>by
    unfold ordGo goG
    rw [pick_ord,go_ord k]
def listV (j:JobV):List Int:=listG j.inputs.length (j.stages.map srcs) (j.stages.length+1) []
theorem ord_list {j:JobV} (h:chkCode j=0):(ordV j=if (listV j).length<j.stages.length then ([],7) else (listV j,0))/\OutG j.inputs.length (j.stages.map srcs) (listV j):=by
  have h1:=go_list (ni:=j.inputs.length) (by omega) (D:=j.stages.map srcs) j.stages.length OutG.nil (by simp)
  refine ⟨?_,h1.2⟩
  unfold ordV
  rw [if_pos h,go_ord]
  rcases h1.1 with ⟨h2,h3⟩|⟨h2,h3⟩
  · rw [h2,if_neg (by unfold listV;rw [h3,List.length_map];omega)];rfl
  · rw [h2,if_pos (by unfold listV;rw [List.length_map] at h3;omega)]
def KN (ni:Nat) (out:List Int) (ks:List Bool):Prop:=ks.length=16/\∀x:Nat,x<16->(ks[x]?=some true↔(x<ni\/((x:Nat):Int)∈out))
theorem KN.at {ni:Nat} {out:List Int} {ks:List Bool} {x:Nat} {y:Int} {b:Bool} (h:KN ni out ks) (hx:ks[x]?=some b) (hy:y=(x:Int)):b=true↔(y<(ni:Int)\/y∈out):=by
  subst hy
  have h1:=(List.getElem?_eq_some_iff.1 hx).1
  have h2:=h.2 x (by rw [<-h.1];exact h1)
  rw [hx] at h2
  simp only [Option.some.injEq] at h2
  rw [h2]
  exact ⟨fun h=>h.elim (fun h=> .inl (by omega)) .inr,fun h=>h.elim (fun h=> .inl (by omega)) .inr⟩
theorem KN.nil:KN 0 [] (List.replicate 16 false):=by
  refine ⟨rfl,fun x hx=>?_⟩
  rw [List.getElem?_replicate,if_pos hx];simp
theorem KN.set {ni:Nat} {out:List Int} {ks:List Bool} {k:Nat} (h:KN ni out ks) (hk:k<16):(ks.set k true).length=16/\∀x:Nat,x<16->((ks.set k true)[x]?=some true↔(x=k\/x<ni\/(x:Int)∈out)):=by
  refine ⟨by rw [List.length_set];exact h.1,fun x hx=>?_⟩
  rw [List.getElem?_set]
  by_cases e:k=x
  · rw [if_pos e,if_pos (by rw [h.1];omega)];exact ⟨fun _=> .inl e.symm,fun _=>rfl⟩
  · exact (by rw [if_neg e,h.2 x hx];exact ⟨fun a=> .inr a,fun a=>a.resolve_left (fun q=>e q.symm)⟩)
theorem KN.inp {i:Nat} {ks:List Bool} (h:KN i [] ks) (hi:i<16):KN (i+1) [] (ks.set i true):=by
  have h1:=h.set hi
  exact ⟨h1.1,fun x hx=>(by rw [h1.2 x hx];simp;omega)⟩
theorem KN.add {ni:Nat} {out:List Int} {ks:List Bool} {y:Int} (h:KN ni out ks) (hy:0<=y/\y<16):KN ni (out++[y]) (ks.set y.toNat true):=by
  have h1:=h.set (k:=y.toNat) (by omega)
  refine ⟨h1.1,fun x hx=>?_⟩
  rw [h1.2 x hx,List.mem_append,List.mem_singleton]
  constructor
  · rintro (h|h|h)
    · exact .inr (.inr (by omega))
    · exact .inl h
    · exact .inr (.inl h)
  · rintro (h|h|h)
    · exact .inr (.inl h)
    · exact .inr (.inr h)
    · exact .inl (by omega)
theorem OutG.snoc {ni:Int} {D:List (List Int)} {out:List Int} (hni:0<=ni) (h:OutG ni D out) (hp:¬pickG ni out D 0<0):OutG ni D (out++[pickG ni out D 0]):=by
  rcases pick0 hni (out:=out) (D:=D) with h1|⟨k,h1,h2,_⟩
  · exact absurd h1.1 hp
  · rw [h1];exact h.add h2
theorem chk_len {j:JobV} (h:chkCode j=0):1<=j.inputs.length/\1<=j.stages.length/\j.inputs.length+j.stages.length<=16:=by
  unfold chkCode at h
  split at h
  · rename_i hx;omega
  · cases h
theorem chk_srcs {j:JobV} (h:chkCode j=0) {s:StageV} (hs:s∈j.stages):∀x∈srcs s,0<=x/\x<(j.inputs.length:Int)+(j.stages.length:Int):=by
  have h1:=chk_src h hs
  intro x hx
  unfold srcs at hx
  split at hx
  · rename_i ht
    have:=h1.2 ht
    simp only [List.mem_cons,List.not_mem_nil,or_false] at hx
    rcases hx with rfl|rfl<;>omega
  · simp only [List.mem_singleton] at hx;subst hx;omega
theorem srcs_two {s:StageV}:(srcs s).length=2↔twoP s:=by
  unfold srcs
  by_cases h:twoP s
  · rw [if_pos h];simp [h]
  · rw [if_neg h];simp [h]
theorem tape_new {cs:List Chunk} (a:Option Addr) (n k:Nat) (hS:Sat W w cs):
    Calls prog 7 #[.slice a n k] w fun e w'=>∃p:Nat,e= .returned (.pointer (some ⟨p,0,none⟩))/\Sat W w' ([(p, .cells #[.slice a n k, .int .i64 0] 78 (0,0))]::cs):=by
  exact callsK 6 func7 rfl<|jCO 9 rfl<|sBx hS [.slice a n k, .int .i64 0] fun b0 c0 a0=>jOR 4 rfl<|retT [.pointer (some ⟨b0,0,none⟩)]<|⟨_,rfl,a0⟩
theorem tmod_bd (v n:Int) (h:0<n):-n<v.tmod n/\v.tmod n<n:=by
  have h1:=Int.tmod_lt_of_pos v h
  have h2:=Int.lt_tmod_of_pos v h
  omega
theorem mod_ok {cs:List Chunk} (v n:Int) (hn:0<n) (hn2:n<=4611686018427387904) (hS:Sat W w cs):
    Calls prog 45 #[.int .i64 v, .int .i64 n] w fun e w'=>∃r:Int,e= .returned (.int .i64 r)/\(0<=r/\r<n)/\Sat W w' cs:=by
  have hm:=tmod_bd v n hn
  exact callsK 15 func45 rfl<|jCO 9 rfl<|sRem v n<|jOC 10 rfl<|CD ((v.tmod n)<0) (fun a0=>jCR 9 rfl<|retT [.int .i64 (v.tmod n)]<|⟨_,rfl,by omega,hS⟩) fun a0=>jCO 3 rfl<|sAdd (v.tmod n) n<|jOR 10 rfl<|retT [.int .i64 ((v.tmod n)+n)]<|⟨_,rfl,by omega,hS⟩
theorem tape_next {p:Nat} {a:Option Addr} {n k:Nat} {i:Int} {xs:List Int} (hR:RdT Go.E.encI 1 [H] a n k xs) (hi:0<=i/\i<=n) (hS:Sat W w ([(p, .cells #[.slice a n k,I i] 78 (0,0))]::H::F)) (m:Int) (hm:m<=4611686018427387904):
  Calls prog 11 #[Pt p 0,I m] w fun e w'=>∃r:Int,e= .returned (I r)/\(0<=r/\(r<m\/r=0))/\∃i':Int,(0<=i'/\i'<=n)/\Sat W w' ([(p, .cells #[.slice a n k,I i'] 78 (0,0))]::H::F):=by
 have l0:=hR.le
 refine callsK 39 func11 rfl<|jCC 7 rfl<|bD ((m:Int)<1) (fun b0=>drawF hS [] (fn) [0,1,2,3,4,5,7,8,9,6,10,11,12,13] fun _ d0=>wV 3<|wFix 7 _ true (decide_eq_true b0)<|wV 11<|wN<|jXR 9 rfl<|retT [I 0]<|⟨_,rfl,om,_,om,d0⟩) fun b0=>drawF hS [] (fb 6 0 1 1<|fb 10 0 0 1<|fn) [0,1,2,3,4,5,7,8,9,6,10,11,12,13] fun _ a0=>wV 3<|wFix 7 _ false (decide_eq_false b0)<|wV 6<|wL 0<|wL 1<|wV 3<|wN<|jXC 1 rfl<|cD (i>=(n:Int)) (fun e0=>jCR 7 rfl<|retT [I 0]<|⟨_,rfl,om,_,om,a0⟩) fun e0=>gCO a0 8 [0] rfl<|sAdd i 1<|pu2<|sT a0 0 1 (I (i+1)) [I (i+1)] #[.slice a n k,I (i+1)] sizeOf3 fun _ f0=>jOC 3 rfl ?_
 obtain ⟨g0,m0,n0,o0,h0,i0⟩:=RdT.elem hR ((i+1)-1)
 refine drawF f0 [12] (fb 3 0 0 1<|fb 7 0 1 1<|fq 10 0 (h0.up 1 rfl)<|fn) [0,1,2,4,5,6,11,3,7,8,9,10,12,13] fun _ j0=>wV 7<|wL 0<|wL 1<|wSub (i+1) 1<|wI i0<|wL 2<|wO rfl<|cZ (mod_ok g0 m om om j0) ?_
 rintro _ _ ⟨k0,rfl,_,c0⟩
 exact nZ c0 [0,0]<|wV 1<|wN<|jXR 2 rfl<|retT [I k0]<|⟨_,rfl,om,_,om,c0⟩
theorem tape_pick {p:Nat} {a:Option Addr} {n k:Nat} {i:Int} {xs:List Int} (hR:RdT Go.E.encI 1 [H] a n k xs) (hi:0<=i/\i<=n) (hS:Sat W w ([(p, .cells #[.slice a n k,I i] 78 (0,0))]::H::F)) {b:Option Addr} {m cap:Nat} {l:List Int} (hL:RdT Go.E.encI 1 [H] b m cap l) (h0:0<m) (hm:m<=1000000):
  Calls prog 58 #[Pt p 0, .slice b m cap] w fun e w'=>∃x:Int,e= .returned (I x)/\x∈l/\∃i':Int,(0<=i'/\i'<=n)/\Sat W w' ([(p, .cells #[.slice a n k,I i'] 78 (0,0))]::H::F):=by
 have g0:=hR.le
 refine callsK 12 func58 rfl<|jCO 11 rfl<|cZ (tape_next (hR.fl 0) om hS.flat1 (m:Int) om) ?_
 rintro _ _ ⟨c0,rfl,_,_,_,d0⟩
 have a0:=d0.unflat1
 exact sII hL c0 fun b0 _ _ e0 f0=>sMp a0 (f0.up 1 rfl) 0 (I b0)<|jOR 4 rfl<|retT [I b0]<|⟨_,rfl,List.mem_of_getElem? e0,_,om,a0⟩
end Go.Proofs.YtghcddbhllkbmaaGreat

namespace Go.Proofs.YtghcddbhllkbmaaGreat
open Go Go.E Go.Proofs.Tryz
set_option linter.all false
set_option maxRecDepth 100000
set_option maxHeartbeats 2000000
variable {W w:World} {H:Chunk} {F:List Chunk}
def numB (z:Int):Prop:=-4611686018427387904<=z/\z<=4611686018427387904
theorem nb {z:Int} (h:numB z:=by unfold numB;first|omega|(dsimp only;omega)):numB z:=h
def tapB (t:Tap):Prop:=numB t.first/\t.weights.l.length<=9/\∀z∈t.weights.l,numB z
theorem mem_set {α:Type} {P:α->Prop} {l:List α} {i:Nat} {x:α} (h:∀z∈l,P z) (hx:P x):∀z∈l.set i x,P z:=by
  intro z hz
  rcases List.mem_or_eq_of_mem_set hz with h1|h1
  · exact h z h1
  · rw [h1];exact hx
theorem set_self_at {α:Type} {l:List α} {i:Nat} {x y:α} (h:(l.set i x)[i]?=some y):y=x:=by
  have hl:i<(l.set i x).length:=(List.getElem?_eq_some_iff.1 h).1
  rw [List.length_set] at hl
  rw [List.getElem?_set_self hl] at h
  exact (Option.some.inj h).symm
theorem tdiv_bd {a b A:Int} (ha:0<=a/\a<=A) (hb:0<b):0<=a.tdiv b/\a.tdiv b<=A:=by
  rw [Int.tdiv_eq_ediv_of_nonneg ha.1]
  refine ⟨Int.ediv_nonneg ha.1 (by omega),Int.le_trans (Int.ediv_le_self _ ha.1) ha.2⟩
theorem mem_snoc {α:Type} {P:α->Prop} {l:List α} {x:α} (h:∀z∈l,P z) (hx:P x):∀z∈l++[x],P z:=by
  intro z hz
  rcases List.mem_append.1 hz with h1|h1
  · exact h z h1
  · simp only [List.mem_singleton] at h1;rw [h1];exact hx
theorem r8_divide (W w:World) (H:Chunk) (F:List Chunk) (tot:Int) (ax:Option Addr) (nx kx:Nat) (x:List Int) (hx:RdT Go.E.encI 1 [H] ax nx kx x) (ht:0<=tot/\tot<=16384) (hp:∀z∈x,1<=z/\z<=16384) (h0:1<=nx/\nx<=200) (hS:Sat W w (H::F)):
  Calls prog 142 #[I tot, .slice ax nx kx] w fun e w'=>∃(az:Option Addr) (nz kz:Nat) (G:Chunk) (zs:List Int),e= .returned (.slice az nz kz)/\RdT Go.E.encI 1 [G] az nz kz zs/\(zs.length=nx/\∀z∈zs,numB z)/\Sat W w' (G::H::F):=by
 have v1:=hx.ll
 refine callsK 96 func142 rfl<|jCC 17 rfl<|loopF [0,1] (γ:=Nat×Int) (fun ⟨i,s⟩ R=>⟨[(6,I (i:Int)),(5,I s)],R,nx-i,i<=nx/\((i:Int)<=s/\s<=16384*(i:Int))⟩) (0,0) ⟨hS,om,om⟩ ?_
 rintro ⟨i,s⟩ ρ _ ⟨d0,hi,hs⟩
 refine jCC 9 rfl<|cD ((i:Int)<(nx:Int)) (fun b1=>jCO 8 rfl<|sIN hx i fun c0 _ _ i0 d1=>(by have W0:=hp c0 (List.mem_of_getElem? i0);have S0:=mul_bd (a:=tot) (b:=c0) (A:=16384) (B:=16384) om om;exact sMp d0 (d1.up 0 rfl) 0 (I c0)<|sAdd s c0<|jOO 6 rfl<|sAdd (i:Int) 1<|jOI 2 rfl<|⟨(i+1,(s+c0)),od,alB,d0,om,om⟩)) fun b1=>jCC 5 rfl<|cutF d0 0 [0,1,5] (γ:=(Option Addr)×Chunk×(Option Addr)×Chunk) (fun ⟨a1,c1,a2,c2⟩ R=>⟨[(7, .slice a1 nx nx),(8, .slice a2 nx nx)],c1::c2::R,0,OwnT Go.E.encI 3 1 a1 nx nx (List.replicate nx 0) c1/\OwnT Go.E.encI 3 1 a2 nx nx (List.replicate nx 0) c2⟩) ?_ ?_
 ·refine drawG d0 [2,5] (fn) (pS [0,1,3,4]<| .fk 2 5 (pS [6]<| .ef 5<|pS [7]<| .fin) (.ef 2<|pS [6,7]<| .fin)) fun _ j0=>qV 4<|qF ?_ ?_
  rotate_left
  ·exact qO rfl<|sMake (kl:= .i64) (kc:= .i64) (enc:=Go.E.encI) (sz:=1) (nb:=8) j0 0 nx (nx:Int) (rfl:(nx:Int)=(nx:Int)) underlying22 (i:=Tryz.t3) kr fR fun e1 f1 _ g1 h1=>nA<|qO rfl<|sMake (kl:= .i64) (kc:= .i64) (enc:=Go.E.encI) (sz:=1) (nb:=8) h1 0 nx (nx:Int) (rfl:(nx:Int)=(nx:Int)) underlying22 (i:=Tryz.t3) kr fR fun i1 j1 _ k1 l1=>nA<|qV 2<|qN<|jXI 0 rfl<|⟨((At i1 0),j1,(At e1 0),f1),alB,l1,k1,g1⟩
  exact qO rfl<|sMake (kl:= .i64) (kc:= .i64) (enc:=Go.E.encI) (sz:=1) (nb:=8) j0 0 nx (nx:Int) (rfl:(nx:Int)=(nx:Int)) underlying22 (i:=Tryz.t3) kr fR fun m1 n1 _ o1 q1=>nA<|qV 1<|qO rfl<|sMake (kl:= .i64) (kc:= .i64) (enc:=Go.E.encI) (sz:=1) (nb:=8) q1 0 nx (nx:Int) (rfl:(nx:Int)=(nx:Int)) underlying22 (i:=Tryz.t3) kr fR fun r1 s1 _ t1 u1=>nA<|qV 1<|qN<|jXI 0 rfl<|⟨((At m1 0),n1,(At r1 0),s1),alB,(u1.pick 1 rfl),o1,t1⟩
 rintro ⟨a1,c1,a2,c2⟩ ρ _ ⟨w1,Y0,Z0⟩
 refine jCC 13 rfl<|loopF [0,1,5] (γ:=Nat×Int×(List Int)×(Option Addr)×Nat×Nat×Chunk×(List Int)×SO) (fun ⟨i,lf,zs,D0,G0,E0,J0,ys,H0,F0,I0,K0⟩ R=>⟨[(10,I (i:Int)),(9,I lf),(7, .slice D0 G0 E0),(8, .slice H0 F0 I0)],J0::K0::R,nx-i,i<=nx/\(∀z∈zs,0<=z/\z<=268435456+0)/\(lf<=tot/\-(268435456*(i:Int))<=lf)/\(zs.length=nx/\ys.length=nx)/\OwnT Go.E.encI 3 1 D0 G0 E0 zs J0/\OwnT Go.E.encI 3 1 H0 F0 I0 ys K0⟩) (0,tot,(List.replicate nx 0),a1,nx,nx,c1,(List.replicate nx 0),a2,nx,nx,c2) ⟨w1,om,by intro z hz;have:=List.eq_of_mem_replicate hz;omega,om,by simp,Y0,Z0⟩ ?_
 rintro ⟨i,lf,zs,D0,G0,E0,J0,ys,H0,F0,I0,K0⟩ ρ _ ⟨k0,hi,hZ,C1,B1,C0,B0⟩
 have O0:=C0.len;have M0:=C0.le
 have N0:=B0.len;have L0:=B0.le
 refine jCC 9 rfl<|cD ((i:Int)<(nx:Int)) (fun x1=>?_) (fun x1=>?_)
 ·refine jCC 5 rfl ?_
  obtain ⟨a0,r3,s3,l0,m0,n0⟩:=RdT.eN hx i
  have R0:=hp a0 (List.mem_of_getElem? l0);have P0:=mul_bd (a:=tot) (b:=a0) (A:=16384) (B:=16384) om om;have T0:=tdiv_bd (a:=tot*a0) (b:=s) (A:=268435456) om om
  obtain ⟨o0,u3,v3,e0,y1,p0,z1⟩:=OwnT.eN C0 i
  have U0:=hZ o0 (List.mem_of_getElem? e0)
  obtain ⟨b2,w3,x3,q0,d2,r0,e2⟩:=OwnT.eN B0 i
  refine drawF k0 [21,23] (fq 8 0 (m0.up 2 rfl)<|fq 16 0 (m0.up 2 rfl)<|fn) [0,1,2,3,4,5,6,7,10,12,13,14,15,18,8,9,11,16,17,19,20,21,22,23] fun _ f2=>wV 7<|wI n0<|wV 4<|wI n0<|wV 1<|wL 0<|wMul tot a0<|wQuo (tot*a0) s<|wL 1<|wMul tot a0<|wRem (tot*a0) s<|wI p0<|wO rfl<|sStF f2 C0 z1 0 i 0 o0 ((tot*a0).tdiv s) e0 (I ((tot*a0).tdiv s)) [I ((tot*a0).tdiv s)] sizeOf3 fun _ g2 s0 h2=>nA<|wI r0<|wO rfl<|sStF h2 B0 e2 1 i 0 b2 ((tot*a0).tmod s) q0 (I ((tot*a0).tmod s)) [I ((tot*a0).tmod s)] sizeOf3 fun _ i2 j2 t0=>nA<|wN<|jXO 5 rfl<|sIO s0 (i:Int) i fun f0 _ _ k2 l2 _=>?_
  have Q0:=set_self_at k2
  refine sMp t0 (l2.up 0 rfl) 0 (I f0)<|sSub lf f0<|jOO 6 rfl<|sAdd (i:Int) 1<|jOI 2 rfl ?_
  exact ⟨(i+1,(lf-f0),(zs.set i ((tot*a0).tdiv s)),D0,G0,E0,g2,(ys.set i ((tot*a0).tmod s)),H0,F0,I0,i2),od,alB,t0,om,mem_set hZ (by first|omega|(refine ⟨?_,?_⟩<;>omega)),om,by simp;omega,s0,j2⟩
 refine jCC 7 rfl<|loopF [] (γ:=Nat×Int×(List Int)×(Option Addr)×Nat×Nat×Chunk×(List Int)×SO) (fun ⟨u,lf,zs,D0,G0,E0,J0,ys,H0,F0,I0,K0⟩ R=>⟨[(9,I lf),(7, .slice D0 G0 E0),(8, .slice H0 F0 I0)],J0::K0::R,16384-u,u<=16384/\(∀z∈zs,0<=z/\z<=268435456+(u:Int))/\((u:Int)+lf<=16384/\-(268435456*200)<=lf)/\(zs.length=nx/\ys.length=nx)/\OwnT Go.E.encI 3 1 D0 G0 E0 zs J0/\OwnT Go.E.encI 3 1 H0 F0 I0 ys K0⟩) (0,lf,zs,D0,G0,E0,J0,ys,H0,F0,I0,K0) ⟨k0,om,by intro z hz;have:=hZ z hz;omega,om,om,C0,B0⟩ ?_
 rintro ⟨u,lf,zs,D0,G0,E0,J0,ys,H0,F0,I0,K0⟩ ρ _ ⟨u0,hu,hZ,A1,B1,C0,B0⟩
 have O0:=C0.len;have M0:=C0.le
 have N0:=B0.len;have L0:=B0.le
 refine jCC 7 rfl<|CD (lf>0) (fun m2=>jCR 12 rfl<|retT [.slice D0 G0 E0]<|⟨_,_,_,_,_,rfl,(C0.rdAt (cs:=[J0]) 0 rfl),⟨om,fun z hz=>by have h:=hZ z hz;unfold numB;omega⟩,(u0.dropAt 1 rfl)⟩) fun m2=>jCC 16 rfl<|loopF [9,7,8] (γ:=Nat×Int) (fun ⟨k,A0⟩ R=>⟨[(12,I (k:Int)),(11,I A0)],R,nx-k,k<=nx/\(0<=A0/\A0<(nx:Int))⟩) (1,0) ⟨u0,om,om⟩ ?_
 rintro ⟨k,A0⟩ ρ _ ⟨g0,hk,X0⟩
 refine jCC 9 rfl<|cD ((k:Int)<(F0:Int)) (fun o2=>jCC 5 rfl<|(by obtain ⟨q2,f4,g4,r2,v0,w0,h4⟩:=OwnT.eN B0 k;obtain ⟨s2,i4,j4,k4,t2,u2,l4⟩:=OwnT.elem B0 A0;exact drawF g0 [] (fq 3 0 (v0.up 1 rfl)<|fq 7 0 (t2.up 1 rfl)<|fn) [0,1,2,4,5,6,3,7,8] fun _ x0=>wV 2<|wI w0<|wV 2<|wI u2<|wL 0<|wL 1<|wV 1<|wN<|jXC 1 rfl<|CD (q2>s2) (fun v2=>jCO 5 rfl<|sAdd (k:Int) 1<|jOI 2 rfl<|⟨(k+1,A0),od,alB,x0,om,om⟩) fun v2=>jCO 8 rfl<|sAdd (k:Int) 1<|jOI 2 rfl<|⟨(k+1,(k:Int)),od,alB,x0,om,om⟩)) fun o2=>jCO 9 rfl<|sIO C0 A0 (A0).toNat fun b0 _ _ y0 w2 _=>?_
 have V0:=hZ b0 (List.mem_of_getElem? y0)
 refine sMp g0 (w2.up 0 rfl) 0 (I b0)<|sAdd b0 1<|sIO C0 A0 (A0).toNat fun x2 _ _ z0 _ y2=>?_
 obtain rfl:b0=x2:=Option.some.inj (y0.symm.trans z0)
 exact sStF g0 C0 y2 0 (A0).toNat 0 b0 (b0+1) z0 (I (b0+1)) [I (b0+1)] sizeOf3 fun _ z2 a3 b3=>jOO 5 rfl<|sIO B0 A0 (A0).toNat fun c3 _ _ d3 _ e3=>sStF b3 B0 e3 1 (A0).toNat 0 c3 (-1) d3 (I (-1)) [I (-1)] sizeOf3 fun _ f3 g3 h3=>jOO 5 rfl<|sSub lf 1<|jOI 2 rfl<|⟨(u+1,(lf-1),(zs.set ((A0).toNat) (b0+1)),D0,G0,E0,z2,(ys.set ((A0).toNat) (-1)),H0,F0,I0,f3),od,alB,h3,om,mem_set (fun z hz=>by have:=hZ z hz;omega) om,om,by simp;omega,a3,g3⟩
theorem tdiv_abs {x d A:Int} (hx:-A<=x/\x<=A):-A<=x.tdiv d/\x.tdiv d<=A:=by
  have h:(x.tdiv d).natAbs<=x.natAbs:=by rw [Int.natAbs_tdiv];exact Nat.div_le_self _ _
  omega
theorem le_mul_pos {k m:Int} (hk:0<=k) (hm:1<=m):k<=k*m:=by
  have:=Int.mul_le_mul_of_nonneg_left hm hk
  omega
theorem r8_linear (W w:World) (H:Chunk) (F:List Chunk) (n0 m0 sh:Int) (hS:Sat W w (H::F)):
  Calls prog 98 #[I n0,I m0,I sh] w fun e w'=>∃(az:Option Addr) (nz kz:Nat) (zs:List Tap) (cd:Int) (c G:Chunk),e= .returned (.tuple #[.slice az nz kz,I cd])/\OwnT encTap 121 2 az nz kz zs c/\(∀z∈zs,Tap.Ok [G] z)/\((zs.length:Int)<=max m0 0/\∀z∈zs,tapB z)/\Sat W w' (G::c::H::F):=by
 refine callsK 80 func98 rfl<|jCO 10 rfl<|cS (r8_side n0 hS.flat) fun _ e0=>pu2<|SDn 18 ((1:Int)<=n0/\n0<=(128:Int)) (fun h0=>jOR 15 rfl<|retT [nS,I 8]<|(by have i0:Sat W _ ([]::[]::H::F):=Sat.nilc (Sat.nilc e0);exact ⟨none,0,0,[],_,[],[],rfl,OwnT.nil fR,(fun z hz=>by cases hz),⟨by simp;omega,(fun z hz=>by cases hz)⟩,i0⟩)) fun h0=>pu1<|gY<|cS (r8_side m0 e0.flat) fun _ c0=>jOC 4 rfl<|CDn ((1:Int)<=m0/\m0<=(128:Int)) (fun j0=>jCR 8 rfl<|retT [nS,I 8]<|(by have k0:Sat W _ ([]::[]::H::F):=Sat.nilc (Sat.nilc c0);exact ⟨none,0,0,[],_,[],[],rfl,OwnT.nil fR,(fun z hz=>by cases hz),⟨by simp;omega,(fun z hz=>by cases hz)⟩,k0⟩)) fun j0=>jCO 8 rfl<|sD 25 (sh<0) (fun l0=>jOR 14 rfl<|retT [nS,I 2]<|(by have o0:Sat W _ ([]::[]::H::F):=Sat.nilc (Sat.nilc c0);exact ⟨none,0,0,[],_,[],[],rfl,OwnT.nil fR,(fun z hz=>by cases hz),⟨by simp;omega,(fun z hz=>by cases hz)⟩,o0⟩)) fun l0=>jOC 5 rfl<|cD (sh>14) (fun p0=>jCR 8 rfl<|retT [nS,I 2]<|(by have q0:Sat W _ ([]::[]::H::F):=Sat.nilc (Sat.nilc c0);exact ⟨none,0,0,[],_,[],[],rfl,OwnT.nil fR,(fun z hz=>by cases hz),⟨by simp;omega,(fun z hz=>by cases hz)⟩,q0⟩)) fun p0=>jCC 14 rfl ?_
 refine loopF [0,1,2] (γ:=Nat×(List Tap)×(Option Addr)×Nat×Nat×Chunk×Chunk) (fun ⟨i,zs,B0,A0,C0,D0,s0⟩ R=>⟨[(9,I (i:Int)),(8, .slice B0 A0 C0)],s0::D0::R,m0.toNat-i,i<=m0.toNat/\(∀z∈zs,tapB z)/\(zs.length=i)/\OwnT encTap 121 2 B0 A0 C0 zs D0/\(∀z∈zs,Tap.Ok [s0] z)⟩) (0,[],none,0,0,[],[]) ⟨(Sat.nilc (Sat.nilc c0)),om,(by intro z hz;cases hz),by rfl,(OwnT.nil (enc:=encTap) (E:=121) (sz:=2) fR),(by intro z hz;cases hz)⟩ ?_
 rintro ⟨i,zs,B0,A0,C0,D0,s0⟩ ρ _ ⟨d0,hi,hB,P0,r0,t0⟩
 have E0:=r0.ll
 refine jCC 8 rfl<|CD ((i:Int)<m0) (fun u0=>jCR 13 rfl<|retT [.slice B0 A0 C0,I 0]<|⟨_,_,_,zs,_,_,_,rfl,r0,t0,⟨om,hB⟩,d0⟩) fun u0=>jCC 5 rfl ?_
 have J0:=mul_bd (a:=((2*(i:Int))+1)) (b:=n0) (A:=257) (B:=128) om om
 refine jCO 2 rfl<|sMul 2 (i:Int)<|sAdd (2*(i:Int)) 1<|pu1<|sMul ((2*(i:Int))+1) n0<|pu1<|sSub (((2*(i:Int))+1)*n0) m0<|pu1<|sMul 2 m0<|jOO 8 rfl<|sQuo ((((2*(i:Int))+1)*n0)-m0) (2*m0)<|jOC 5 rfl ?_
 have hq:=Int.mul_tdiv_add_tmod ((((2*(i:Int))+1)*n0)-m0) (2*m0);have K0:=Int.tmod_lt_of_pos ((((2*(i:Int))+1)*n0)-m0) (by omega:0<(2*m0));have L0:=Int.lt_tmod_of_pos ((((2*(i:Int))+1)*n0)-m0) (by omega:0<(2*m0));have M0:=Int.mul_comm (((((2*(i:Int))+1)*n0)-m0).tdiv (2*m0)) (2*m0);have N0:=tdiv_abs (x:=((((2*(i:Int))+1)*n0)-m0)) (d:=(2*m0)) (A:=65536) om;have O0:(((((2*(i:Int))+1)*n0)-m0).tdiv (2*m0)-1)*(2*m0)=((((2*(i:Int))+1)*n0)-m0).tdiv (2*m0)*(2*m0)-(2*m0):=by rw [Int.sub_mul,Int.one_mul]
 refine jCO 3 rfl<|sMul (((((2*(i:Int))+1)*n0)-m0).tdiv (2*m0)) (2*m0)<|jOC 4 rfl<|cD (((((((2*(i:Int))+1)*n0)-m0).tdiv (2*m0))*(2*m0))>((((2*(i:Int))+1)*n0)-m0)) (fun v0=>?_) (fun v0=>?_)
 rotate_left
 ·refine jCO 5 rfl<|stepY (.int .u64 sh) rfl rfl (Y_conv (k:= .i64) (a:=sh) underlying3 underlying164 (wrapIn_u64 _ om) rfl kr)<|stepY (I (2^(sh).toNat)) rfl rfl (Y_shl1 (k':= .u64) sh rfl kr kr om)<|jOC 4 rfl ?_
  have G0:=pow2_pos sh.toNat;have H0:=pow2_le (a:=sh.toNat) (b:=14) om
  have F0:=mul_abs (a:=(2*(((((2*(i:Int))+1)*n0)-m0)-((((((2*(i:Int))+1)*n0)-m0).tdiv (2*m0))*(2*m0))))) (b:=(2^(sh).toNat)) (A:=2048) (B:=16384) om om
  have I0:=tdiv_abs (x:=(((2*(((((2*(i:Int))+1)*n0)-m0)-((((((2*(i:Int))+1)*n0)-m0).tdiv (2*m0))*(2*m0))))*(2^(sh).toNat))+(2*m0))) (d:=(2*(2*m0))) (A:=67108864) om
  refine jCO 4 rfl<|sMul (((((2*(i:Int))+1)*n0)-m0).tdiv (2*m0)) (2*m0)<|sSub ((((2*(i:Int))+1)*n0)-m0) ((((((2*(i:Int))+1)*n0)-m0).tdiv (2*m0))*(2*m0))<|sMul 2 (((((2*(i:Int))+1)*n0)-m0)-((((((2*(i:Int))+1)*n0)-m0).tdiv (2*m0))*(2*m0)))<|pu1<|sMul (2*(((((2*(i:Int))+1)*n0)-m0)-((((((2*(i:Int))+1)*n0)-m0).tdiv (2*m0))*(2*m0)))) (2^(sh).toNat)<|pu1<|sAdd ((2*(((((2*(i:Int))+1)*n0)-m0)-((((((2*(i:Int))+1)*n0)-m0).tdiv (2*m0))*(2*m0))))*(2^(sh).toNat)) (2*m0)<|pu1<|sMul 2 (2*m0)<|sQuo (((2*(((((2*(i:Int))+1)*n0)-m0)-((((((2*(i:Int))+1)*n0)-m0).tdiv (2*m0))*(2*m0))))*(2^(sh).toNat))+(2*m0)) (2*(2*m0))<|jOO 8 rfl<|sSub (2^(sh).toNat) ((((2*(((((2*(i:Int))+1)*n0)-m0)-((((((2*(i:Int))+1)*n0)-m0).tdiv (2*m0))*(2*m0))))*(2^(sh).toNat))+(2*m0)).tdiv (2*(2*m0)))<|pu1<|sBK d0 #[I ((2^(sh).toNat)-((((2*(((((2*(i:Int))+1)*n0)-m0)-((((((2*(i:Int))+1)*n0)-m0).tdiv (2*m0))*(2*m0))))*(2^(sh).toNat))+(2*m0)).tdiv (2*(2*m0)))),I ((((2*(((((2*(i:Int))+1)*n0)-m0)-((((((2*(i:Int))+1)*n0)-m0).tdiv (2*m0))*(2*m0))))*(2^(sh).toNat))+(2*m0)).tdiv (2*(2*m0)))] 3 fun a0 _ w0=>pu1<|sBK w0 #[I (((((2*(i:Int))+1)*n0)-m0).tdiv (2*m0)), .slice (At a0 0) 2 2] 121 fun _ _ x0=>?_
  refine sApp (nb:=32) x0 r0 3 (RdT.blk (enc:=encTap) (sz:=2) (xs:=[(⟨(((((2*(i:Int))+1)*n0)-m0).tdiv (2*m0)),⟨(At a0 0),2,2,[((2^(sh).toNat)-((((2*(((((2*(i:Int))+1)*n0)-m0)-((((((2*(i:Int))+1)*n0)-m0).tdiv (2*m0))*(2*m0))))*(2^(sh).toNat))+(2*m0)).tdiv (2*(2*m0)))),((((2*(((((2*(i:Int))+1)*n0)-m0)-((((((2*(i:Int))+1)*n0)-m0).tdiv (2*m0))*(2*m0))))*(2^(sh).toNat))+(2*m0)).tdiv (2*(2*m0)))]⟩⟩:Tap)]) fR 1 0 rfl rfl rfl om) underlying50 (i:=Tryz.t121) kr fR fun y0 z0 f0 _ a1 b1=>jOO 6 rfl<|sAdd (i:Int) 1<|jOI 2 rfl ?_
  have c1:=(b1.dropAt 0 rfl)
  have d1:=(Sat.perm (cs':=([(a0, .cells #[I ((2^(sh).toNat)-((((2*(((((2*(i:Int))+1)*n0)-m0)-((((((2*(i:Int))+1)*n0)-m0).tdiv (2*m0))*(2*m0))))*(2^(sh).toNat))+(2*m0)).tdiv (2*(2*m0)))),I ((((2*(((((2*(i:Int))+1)*n0)-m0)-((((((2*(i:Int))+1)*n0)-m0).tdiv (2*m0))*(2*m0))))*(2^(sh).toNat))+(2*m0)).tdiv (2*(2*m0)))] 3 (0,0))]++s0)::(f0::H::F)) c1 (by simp))
  exact ⟨(i+1,(zs++[(⟨(((((2*(i:Int))+1)*n0)-m0).tdiv (2*m0)),⟨(At a0 0),2,2,[((2^(sh).toNat)-((((2*(((((2*(i:Int))+1)*n0)-m0)-((((((2*(i:Int))+1)*n0)-m0).tdiv (2*m0))*(2*m0))))*(2^(sh).toNat))+(2*m0)).tdiv (2*(2*m0)))),((((2*(((((2*(i:Int))+1)*n0)-m0)-((((((2*(i:Int))+1)*n0)-m0).tdiv (2*m0))*(2*m0))))*(2^(sh).toNat))+(2*m0)).tdiv (2*(2*m0)))]⟩⟩:Tap)]),y0,(A0+1),z0,f0,([(a0, .cells #[I ((2^(sh).toNat)-((((2*(((((2*(i:Int))+1)*n0)-m0)-((((((2*(i:Int))+1)*n0)-m0).tdiv (2*m0))*(2*m0))))*(2^(sh).toNat))+(2*m0)).tdiv (2*(2*m0)))),I ((((2*(((((2*(i:Int))+1)*n0)-m0)-((((((2*(i:Int))+1)*n0)-m0).tdiv (2*m0))*(2*m0))))*(2^(sh).toNat))+(2*m0)).tdiv (2*(2*m0)))] 3 (0,0))]++s0)),od,alB,d1,om,mem_snoc hB (show tapB (⟨(((((2*(i:Int))+1)*n0)-m0).tdiv (2*m0)),⟨(At a0 0),2,2,[((2^(sh).toNat)-((((2*(((((2*(i:Int))+1)*n0)-m0)-((((((2*(i:Int))+1)*n0)-m0).tdiv (2*m0))*(2*m0))))*(2^(sh).toNat))+(2*m0)).tdiv (2*(2*m0)))),((((2*(((((2*(i:Int))+1)*n0)-m0)-((((((2*(i:Int))+1)*n0)-m0).tdiv (2*m0))*(2*m0))))*(2^(sh).toNat))+(2*m0)).tdiv (2*(2*m0)))]⟩⟩:Tap) from ⟨by unfold numB;dsimp only;omega,by simp,by intro z hz;simp only [List.mem_cons,List.not_mem_nil,or_false] at hz;unfold numB;omega⟩),by simp;omega,a1,(by
    intro z hz
    rcases List.mem_append.1 hz with h|h
    ·exact (t0 z h).of_mem mS
    ·simp only [List.mem_singleton] at h;subst h;exact ⟨(RdT.blk (cs:=[[(a0, .cells #[I ((2^(sh).toNat)-((((2*(((((2*(i:Int))+1)*n0)-m0)-((((((2*(i:Int))+1)*n0)-m0).tdiv (2*m0))*(2*m0))))*(2^(sh).toNat))+(2*m0)).tdiv (2*(2*m0)))),I ((((2*(((((2*(i:Int))+1)*n0)-m0)-((((((2*(i:Int))+1)*n0)-m0).tdiv (2*m0))*(2*m0))))*(2^(sh).toNat))+(2*m0)).tdiv (2*(2*m0)))] 3 (0,0))]]) (enc:=Go.E.encI) (sz:=1) (xs:=[((2^(sh).toNat)-((((2*(((((2*(i:Int))+1)*n0)-m0)-((((((2*(i:Int))+1)*n0)-m0).tdiv (2*m0))*(2*m0))))*(2^(sh).toNat))+(2*m0)).tdiv (2*(2*m0)))),((((2*(((((2*(i:Int))+1)*n0)-m0)-((((((2*(i:Int))+1)*n0)-m0).tdiv (2*m0))*(2*m0))))*(2^(sh).toNat))+(2*m0)).tdiv (2*(2*m0)))]) fR 2 0 rfl rfl rfl om).of_mem mS⟩)⟩
 refine jCO 2 rfl<|sSub (((((2*(i:Int))+1)*n0)-m0).tdiv (2*m0)) 1<|jOO 6 rfl<|stepY (.int .u64 sh) rfl rfl (Y_conv (k:= .i64) (a:=sh) underlying3 underlying164 (wrapIn_u64 _ om) rfl kr)<|stepY (I (2^(sh).toNat)) rfl rfl (Y_shl1 (k':= .u64) sh rfl kr kr om)<|jOC 4 rfl ?_
 have G0:=pow2_pos sh.toNat;have H0:=pow2_le (a:=sh.toNat) (b:=14) om
 have F0:=mul_abs (a:=(2*(((((2*(i:Int))+1)*n0)-m0)-(((((((2*(i:Int))+1)*n0)-m0).tdiv (2*m0))-1)*(2*m0))))) (b:=(2^(sh).toNat)) (A:=2048) (B:=16384) om om
 have I0:=tdiv_abs (x:=(((2*(((((2*(i:Int))+1)*n0)-m0)-(((((((2*(i:Int))+1)*n0)-m0).tdiv (2*m0))-1)*(2*m0))))*(2^(sh).toNat))+(2*m0))) (d:=(2*(2*m0))) (A:=67108864) om
 refine jCO 4 rfl<|sMul ((((((2*(i:Int))+1)*n0)-m0).tdiv (2*m0))-1) (2*m0)<|sSub ((((2*(i:Int))+1)*n0)-m0) (((((((2*(i:Int))+1)*n0)-m0).tdiv (2*m0))-1)*(2*m0))<|sMul 2 (((((2*(i:Int))+1)*n0)-m0)-(((((((2*(i:Int))+1)*n0)-m0).tdiv (2*m0))-1)*(2*m0)))<|pu1<|sMul (2*(((((2*(i:Int))+1)*n0)-m0)-(((((((2*(i:Int))+1)*n0)-m0).tdiv (2*m0))-1)*(2*m0)))) (2^(sh).toNat)<|pu1<|sAdd ((2*(((((2*(i:Int))+1)*n0)-m0)-(((((((2*(i:Int))+1)*n0)-m0).tdiv (2*m0))-1)*(2*m0))))*(2^(sh).toNat)) (2*m0)<|pu1<|sMul 2 (2*m0)<|sQuo (((2*(((((2*(i:Int))+1)*n0)-m0)-(((((((2*(i:Int))+1)*n0)-m0).tdiv (2*m0))-1)*(2*m0))))*(2^(sh).toNat))+(2*m0)) (2*(2*m0))<|jOO 8 rfl<|sSub (2^(sh).toNat) ((((2*(((((2*(i:Int))+1)*n0)-m0)-(((((((2*(i:Int))+1)*n0)-m0).tdiv (2*m0))-1)*(2*m0))))*(2^(sh).toNat))+(2*m0)).tdiv (2*(2*m0)))<|pu1<|sBK d0 #[I ((2^(sh).toNat)-((((2*(((((2*(i:Int))+1)*n0)-m0)-(((((((2*(i:Int))+1)*n0)-m0).tdiv (2*m0))-1)*(2*m0))))*(2^(sh).toNat))+(2*m0)).tdiv (2*(2*m0)))),I ((((2*(((((2*(i:Int))+1)*n0)-m0)-(((((((2*(i:Int))+1)*n0)-m0).tdiv (2*m0))-1)*(2*m0))))*(2^(sh).toNat))+(2*m0)).tdiv (2*(2*m0)))] 3 fun b0 _ e1=>pu1<|sBK e1 #[I ((((((2*(i:Int))+1)*n0)-m0).tdiv (2*m0))-1), .slice (At b0 0) 2 2] 121 fun _ _ f1=>?_
 refine sApp (nb:=32) f1 r0 3 (RdT.blk (enc:=encTap) (sz:=2) (xs:=[(⟨((((((2*(i:Int))+1)*n0)-m0).tdiv (2*m0))-1),⟨(At b0 0),2,2,[((2^(sh).toNat)-((((2*(((((2*(i:Int))+1)*n0)-m0)-(((((((2*(i:Int))+1)*n0)-m0).tdiv (2*m0))-1)*(2*m0))))*(2^(sh).toNat))+(2*m0)).tdiv (2*(2*m0)))),((((2*(((((2*(i:Int))+1)*n0)-m0)-(((((((2*(i:Int))+1)*n0)-m0).tdiv (2*m0))-1)*(2*m0))))*(2^(sh).toNat))+(2*m0)).tdiv (2*(2*m0)))]⟩⟩:Tap)]) fR 1 0 rfl rfl rfl om) underlying50 (i:=Tryz.t121) kr fR fun g1 h1 g0 _ i1 j1=>jOO 6 rfl<|sAdd (i:Int) 1<|jOI 2 rfl ?_
 have k1:=(j1.dropAt 0 rfl)
 have l1:=(Sat.perm (cs':=([(b0, .cells #[I ((2^(sh).toNat)-((((2*(((((2*(i:Int))+1)*n0)-m0)-(((((((2*(i:Int))+1)*n0)-m0).tdiv (2*m0))-1)*(2*m0))))*(2^(sh).toNat))+(2*m0)).tdiv (2*(2*m0)))),I ((((2*(((((2*(i:Int))+1)*n0)-m0)-(((((((2*(i:Int))+1)*n0)-m0).tdiv (2*m0))-1)*(2*m0))))*(2^(sh).toNat))+(2*m0)).tdiv (2*(2*m0)))] 3 (0,0))]++s0)::(g0::H::F)) k1 (by simp))
 exact ⟨(i+1,(zs++[(⟨((((((2*(i:Int))+1)*n0)-m0).tdiv (2*m0))-1),⟨(At b0 0),2,2,[((2^(sh).toNat)-((((2*(((((2*(i:Int))+1)*n0)-m0)-(((((((2*(i:Int))+1)*n0)-m0).tdiv (2*m0))-1)*(2*m0))))*(2^(sh).toNat))+(2*m0)).tdiv (2*(2*m0)))),((((2*(((((2*(i:Int))+1)*n0)-m0)-(((((((2*(i:Int))+1)*n0)-m0).tdiv (2*m0))-1)*(2*m0))))*(2^(sh).toNat))+(2*m0)).tdiv (2*(2*m0)))]⟩⟩:Tap)]),g1,(A0+1),h1,g0,([(b0, .cells #[I ((2^(sh).toNat)-((((2*(((((2*(i:Int))+1)*n0)-m0)-(((((((2*(i:Int))+1)*n0)-m0).tdiv (2*m0))-1)*(2*m0))))*(2^(sh).toNat))+(2*m0)).tdiv (2*(2*m0)))),I ((((2*(((((2*(i:Int))+1)*n0)-m0)-(((((((2*(i:Int))+1)*n0)-m0).tdiv (2*m0))-1)*(2*m0))))*(2^(sh).toNat))+(2*m0)).tdiv (2*(2*m0)))] 3 (0,0))]++s0)),od,alB,l1,om,mem_snoc hB (show tapB (⟨((((((2*(i:Int))+1)*n0)-m0).tdiv (2*m0))-1),⟨(At b0 0),2,2,[((2^(sh).toNat)-((((2*(((((2*(i:Int))+1)*n0)-m0)-(((((((2*(i:Int))+1)*n0)-m0).tdiv (2*m0))-1)*(2*m0))))*(2^(sh).toNat))+(2*m0)).tdiv (2*(2*m0)))),((((2*(((((2*(i:Int))+1)*n0)-m0)-(((((((2*(i:Int))+1)*n0)-m0).tdiv (2*m0))-1)*(2*m0))))*(2^(sh).toNat))+(2*m0)).tdiv (2*(2*m0)))]⟩⟩:Tap) from ⟨by unfold numB;dsimp only;omega,by simp,by intro z hz;simp only [List.mem_cons,List.not_mem_nil,or_false] at hz;unfold numB;omega⟩),by simp;omega,i1,(by
   intro z hz
   rcases List.mem_append.1 hz with h|h
   ·exact (t0 z h).of_mem mS
   ·simp only [List.mem_singleton] at h;subst h;exact ⟨(RdT.blk (cs:=[[(b0, .cells #[I ((2^(sh).toNat)-((((2*(((((2*(i:Int))+1)*n0)-m0)-(((((((2*(i:Int))+1)*n0)-m0).tdiv (2*m0))-1)*(2*m0))))*(2^(sh).toNat))+(2*m0)).tdiv (2*(2*m0)))),I ((((2*(((((2*(i:Int))+1)*n0)-m0)-(((((((2*(i:Int))+1)*n0)-m0).tdiv (2*m0))-1)*(2*m0))))*(2^(sh).toNat))+(2*m0)).tdiv (2*(2*m0)))] 3 (0,0))]]) (enc:=Go.E.encI) (sz:=1) (xs:=[((2^(sh).toNat)-((((2*(((((2*(i:Int))+1)*n0)-m0)-(((((((2*(i:Int))+1)*n0)-m0).tdiv (2*m0))-1)*(2*m0))))*(2^(sh).toNat))+(2*m0)).tdiv (2*(2*m0)))),((((2*(((((2*(i:Int))+1)*n0)-m0)-(((((((2*(i:Int))+1)*n0)-m0).tdiv (2*m0))-1)*(2*m0))))*(2^(sh).toNat))+(2*m0)).tdiv (2*(2*m0)))]) fR 2 0 rfl rfl rfl om).of_mem mS⟩)⟩
theorem r8_box (W w:World) (H:Chunk) (F:List Chunk) (n0 m0 sh:Int) (hS:Sat W w (H::F)):
  Calls prog 99 #[I n0,I m0,I sh] w fun e w'=>∃(az:Option Addr) (nz kz:Nat) (zs:List Tap) (cd:Int) (c G:Chunk),e= .returned (.tuple #[.slice az nz kz,I cd])/\OwnT encTap 121 2 az nz kz zs c/\(∀z∈zs,Tap.Ok [G] z)/\((zs.length:Int)<=max m0 0/\∀z∈zs,tapB z)/\Sat W w' (G::c::H::F):=by
 refine callsK 83 func99 rfl<|jCO 10 rfl<|cS (r8_side n0 hS.flat) fun _ g0=>pu2<|SDn 18 ((1:Int)<=n0/\n0<=(128:Int)) (fun q0=>jOR 15 rfl<|retT [nS,I 8]<|(by have r0:Sat W _ ([]::[]::H::F):=Sat.nilc (Sat.nilc g0);exact ⟨none,0,0,[],_,[],[],rfl,OwnT.nil fR,(fun z hz=>by cases hz),⟨by simp;omega,(fun z hz=>by cases hz)⟩,r0⟩)) fun q0=>pu1<|gY<|cS (r8_side m0 g0.flat) fun _ d0=>jOC 4 rfl<|CDn ((1:Int)<=m0/\m0<=(128:Int)) (fun s0=>jCR 8 rfl<|retT [nS,I 8]<|(by have t0:Sat W _ ([]::[]::H::F):=Sat.nilc (Sat.nilc d0);exact ⟨none,0,0,[],_,[],[],rfl,OwnT.nil fR,(fun z hz=>by cases hz),⟨by simp;omega,(fun z hz=>by cases hz)⟩,t0⟩)) fun s0=>jCO 8 rfl<|sD 25 (sh<0) (fun u0=>jOR 14 rfl<|retT [nS,I 2]<|(by have v0:Sat W _ ([]::[]::H::F):=Sat.nilc (Sat.nilc d0);exact ⟨none,0,0,[],_,[],[],rfl,OwnT.nil fR,(fun z hz=>by cases hz),⟨by simp;omega,(fun z hz=>by cases hz)⟩,v0⟩)) fun u0=>jOC 5 rfl<|cD (sh>14) (fun w0=>jCR 8 rfl<|retT [nS,I 2]<|(by have x0:Sat W _ ([]::[]::H::F):=Sat.nilc (Sat.nilc d0);exact ⟨none,0,0,[],_,[],[],rfl,OwnT.nil fR,(fun z hz=>by cases hz),⟨by simp;omega,(fun z hz=>by cases hz)⟩,x0⟩)) fun w0=>jCC 14 rfl ?_
 refine loopF [0,1,2] (γ:=Nat×(List Tap)×(Option Addr)×Nat×Nat×Chunk×Chunk) (fun ⟨i,zs,F0,D0,H0,J0,B0⟩ R=>⟨[(9,I (i:Int)),(8, .slice F0 D0 H0)],B0::J0::R,m0.toNat-i,i<=m0.toNat/\(∀z∈zs,tapB z)/\(zs.length=i)/\OwnT encTap 121 2 F0 D0 H0 zs J0/\(∀z∈zs,Tap.Ok [B0] z)⟩) (0,[],none,0,0,[],[]) ⟨(Sat.nilc (Sat.nilc d0)),om,(by intro z hz;cases hz),by rfl,(OwnT.nil (enc:=encTap) (E:=121) (sz:=2) fR),(by intro z hz;cases hz)⟩ ?_
 rintro ⟨i,zs,F0,D0,H0,J0,B0⟩ ρ _ ⟨h0,hi,hB,X0,z0,C0⟩
 have L0:=z0.ll
 refine jCC 8 rfl<|CD ((i:Int)<m0) (fun b1=>jCR 13 rfl<|retT [.slice F0 D0 H0,I 0]<|⟨_,_,_,zs,_,_,_,rfl,z0,C0,⟨om,hB⟩,h0⟩) fun b1=>jCC 5 rfl ?_
 have O0:=mul_bd (a:=(i:Int)) (b:=n0) (A:=128) (B:=128) om om;have P0:((i:Int)+1)*n0=(i:Int)*n0+n0:=by rw [Int.add_mul,Int.one_mul]
 refine jCO 3 rfl<|sMul (i:Int) n0<|pu1<|sAdd (i:Int) 1<|pu1<|sMul ((i:Int)+1) n0<|jOO 8 rfl<|sQuo ((i:Int)*n0) m0<|pu1<|sAlloc h0 zeroValue121 fun _ _ c1=>sTk c1 0 rfl [I (((i:Int)*n0).tdiv m0),nS] fun _ i0=>jOC 3 rfl ?_
 have hq:=Int.mul_tdiv_add_tmod ((i:Int)*n0) m0;have T0:=Int.tmod_lt_of_pos ((i:Int)*n0) (by omega:0<m0);have U0:=Int.tmod_nonneg m0 (by omega:0<=((i:Int)*n0));have V0:=Int.mul_comm (((i:Int)*n0).tdiv m0) m0;have W0:=tdiv_bd (a:=((i:Int)*n0)) (b:=m0) (A:=16384) om om
 refine gCC i0 13 [0] rfl<|loopF [0,1,2,9,8,10,11,12] (γ:=Nat×Int×(List Int)×SO) (fun ⟨u,kk,ps,E0,A0,G0,I0⟩ R=>⟨[(14,I kk),(13, .slice E0 A0 G0)],I0::R,20000-u,u<=20000/\(∀z∈ps,1<=z/\z<=16384)/\((u:Int)+(((i:Int)*n0).tdiv m0)=kk/\((i:Int)*n0)<kk*m0+m0/\kk*m0<=((i:Int)*n0)+n0+m0/\(u=0->kk*m0<=((i:Int)*n0)))/\(ps.length=u)/\OwnT Go.E.encI 3 1 E0 A0 G0 ps I0⟩) (0,(((i:Int)*n0).tdiv m0),[],none,0,0,[]) ⟨(Sat.nilc i0),om,(by intro z hz;cases hz),om,by rfl,(OwnT.nil (enc:=Go.E.encI) (E:=3) (sz:=1) fR)⟩ ?_
 rintro ⟨u,kk,ps,E0,A0,G0,I0⟩ ρ _ ⟨e0,hu,hP,hk,S0,y0⟩
 have K0:=y0.ll
 refine jCC 2 rfl ?_
 have N0:=le_mul_pos (k:=kk) (m:=m0) om om;have M0:(kk+1)*m0=kk*m0+m0:=by rw [Int.add_mul,Int.one_mul]
 refine jCO 3 rfl<|sMul kk m0<|jOC 4 rfl<|cD ((kk*m0)<(((i:Int)+1)*n0)) (fun f1=>jCO 8 rfl<|sAdd kk 1<|pu1<|sMul (kk+1) m0<|stepY (I (min (((i:Int)+1)*n0) ((kk+1)*m0))) rfl rfl (Y_min2 (((i:Int)+1)*n0) ((kk+1)*m0) rfl rfl kr kr)<|pu3<|sMul kk m0<|stepY (I (max ((i:Int)*n0) (kk*m0))) rfl rfl (Y_max2 ((i:Int)*n0) (kk*m0) rfl rfl kr kr)<|sSub (min (((i:Int)+1)*n0) ((kk+1)*m0)) (max ((i:Int)*n0) (kk*m0))<|sBK e0 #[I ((min (((i:Int)+1)*n0) ((kk+1)*m0))-(max ((i:Int)*n0) (kk*m0)))] 3 fun _ _ g1=>sApp (nb:=8) g1 y0 1 (RdT.blk (enc:=Go.E.encI) (sz:=1) (xs:=[((min (((i:Int)+1)*n0) ((kk+1)*m0))-(max ((i:Int)*n0) (kk*m0)))]) fR 1 0 rfl rfl rfl om) underlying22 (i:=Tryz.t3) kr fR fun h1 i1 j1 _ k1 l1=>jOO 6 rfl<|sAdd kk 1<|jOI 2 rfl<|⟨(u+1,(kk+1),(ps++[((min (((i:Int)+1)*n0) ((kk+1)*m0))-(max ((i:Int)*n0) (kk*m0)))]),h1,(A0+1),i1,j1),od,alB,(l1.dropAt 0 rfl),om,mem_snoc hP om,om,by simp;omega,k1⟩) fun f1=>jCC 13 rfl<|cD ((A0:Int)>8) (fun n1=>jCR 13 rfl<|retT [nS,I 9]<|(by have o1:=(e0.drops [0,0,0,0]);have q1:Sat W _ ([]::[]::H::F):=Sat.nilc (Sat.nilc o1);exact ⟨none,0,0,[],_,[],[],rfl,OwnT.nil fR,(fun z hz=>by cases hz),⟨by simp;omega,(fun z hz=>by cases hz)⟩,q1⟩)) fun n1=>jCC 3 rfl ?_
 have Q0:=pow2_pos sh.toNat;have R0:=pow2_le (a:=sh.toNat) (b:=14) om
 refine jCO 2 rfl<|stepY (.int .u64 sh) rfl rfl (Y_conv (k:= .i64) (a:=sh) underlying3 underlying164 (wrapIn_u64 _ om) rfl kr)<|stepY (I (2^(sh).toNat)) rfl rfl (Y_shl1 (k':= .u64) sh rfl kr kr om)<|pu1<|sF #[I (2^(sh).toNat), .slice E0 A0 G0] call142 (Calls.mono (r8_divide W _ _ [] (2^(sh).toNat) _ _ _ ps (RdT.flat (y0.rdAt 0 (by rfl))) om (fun z hz=>by have:=hP z hz;omega) om e0.flat) ?_)
 rintro _ _ ⟨a0,b0,c0,j0,f0,rfl,r1,k0,l0⟩
 refine ⟨_,rfl,?_⟩
 have s1:=l0.unflat1;clear l0
 refine pu1<|sT s1 2 1 (.slice a0 b0 c0) [.slice a0 b0 c0] #[I (((i:Int)*n0).tdiv m0), .slice a0 b0 c0] sizeOf22 fun _ o0=>gOO o0 5 [202] rfl<|sBK o0 #[I (((i:Int)*n0).tdiv m0), .slice a0 b0 c0] 121 fun _ _ t1=>sApp (nb:=32) t1 z0 5 (RdT.blk (enc:=encTap) (sz:=2) (xs:=[(⟨(((i:Int)*n0).tdiv m0),⟨a0,b0,c0,f0⟩⟩:Tap)]) fR 1 0 rfl rfl rfl om) underlying50 (i:=Tryz.t121) kr fR fun u1 v1 p0 _ w1 x1=>jOO 6 rfl<|sAdd (i:Int) 1<|jOI 2 rfl ?_
 have y1:=(x1.drops [0,1,1])
 exact ⟨(i+1,(zs++[(⟨(((i:Int)*n0).tdiv m0),⟨a0,b0,c0,f0⟩⟩:Tap)]),u1,(D0+1),v1,p0,(j0++B0)),od,alB,(Sat.perm (cs':=(j0++B0)::(p0::H::F)) y1 (by simp)),om,mem_snoc hB (show tapB (⟨(((i:Int)*n0).tdiv m0),⟨a0,b0,c0,f0⟩⟩:Tap) from ⟨by unfold numB;dsimp only;omega,by have:=k0.1;dsimp only;omega,k0.2⟩),by simp;omega,w1,(by
   intro z hz
   rcases List.mem_append.1 hz with h|h
   ·exact (C0 z h).of_mem mS
   ·simp only [List.mem_singleton] at h;subst h;exact ⟨r1.of_mem mS⟩)⟩
end Go.Proofs.YtghcddbhllkbmaaGreat
namespace Go.E
set_option linter.unusedVariables false
set_option linter.unusedSimpArgs false
section
variable {P:Program} {W w:World} {cs:List Chunk} {ρ:Env} {o:Oper} {ops:Array Oper} {rest:List Oper} {n:Nat} {N:Env->World->Prop}
end
end Go.E
