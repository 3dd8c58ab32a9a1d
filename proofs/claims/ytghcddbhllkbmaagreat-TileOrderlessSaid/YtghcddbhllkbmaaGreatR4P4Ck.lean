import Derived.Test.YtghcddbhllkbmaaGreatR4P4La
namespace Go.Proofs.YtghcddbhllkbmaaGreat
open Go Go.E Go.Proofs.Tryz
set_option linter.all false
set_option maxRecDepth 100000
set_option maxHeartbeats 2000000
variable {W w:World} {H:Chunk} {F:List Chunk}
theorem p1_mul (a:Int) (b:Int) (l:Int) (hl:l<=4611686018427387904) (hS:Sat W w (H::F)):
  Ro prog 139 #[I a,I b,I l] (.tuple #[I (mulV a b l), .bool (mulOK a b l)]) W w (H::F):=by
 refine callsK 30 func139 rfl<|jCO 12 rfl<|sD 10 (a<0) (fun a0=>jOR 18 rfl<|retT [I 0, .bool false]<|(by obtain ⟨e1,e2⟩:=mul_f (a:=a) (b:=b) (l:=l) (by first|omega|(have:=mul_gt_of (a:=a) (b:=b) (l:=l) om om om;omega));exact ⟨by rw [e1,e2];rfl,hS⟩)) fun a0=>pu4<|sD 14 (b<0) (fun b0=>jOR 14 rfl<|retT [I 0, .bool false]<|(by obtain ⟨e1,e2⟩:=mul_f (a:=a) (b:=b) (l:=l) (by first|omega|(have:=mul_gt_of (a:=a) (b:=b) (l:=l) om om om;omega));exact ⟨by rw [e1,e2];rfl,hS⟩)) fun b0=>jOC 5 rfl<|cD (l<0) (fun c0=>jCR 8 rfl<|retT [I 0, .bool false]<|(by obtain ⟨e1,e2⟩:=mul_f (a:=a) (b:=b) (l:=l) (by first|omega|(have:=mul_gt_of (a:=a) (b:=b) (l:=l) om om om;omega));exact ⟨by rw [e1,e2];rfl,hS⟩)) fun c0=>jCO 8 rfl<|SD 20 (b>0) (fun d0=>jOC 12 rfl<|(by have hm:=mul_le_of (a:=a) (b:=b) (l:=l) om om om om;refine jCO 3 rfl<|sMul a b<|jOR 5 rfl<|retT [I (a*b), .bool true] ?_;obtain ⟨e1,e2⟩:=mul_t (a:=a) (b:=b) (l:=l) om;exact ⟨by rw [e1,e2];rfl,hS⟩)) fun d0=>?_
 refine pu3<|gY<|sQuo l b<|jOC 4 rfl<|cD (a>(l.tdiv b)) (fun e0=>jCR 8 rfl<|retT [I 0, .bool false]<|(by obtain ⟨e1,e2⟩:=mul_f (a:=a) (b:=b) (l:=l) (by first|omega|(have:=mul_gt_of (a:=a) (b:=b) (l:=l) om om om;omega));exact ⟨by rw [e1,e2];rfl,hS⟩)) fun e0=>jCC 3 rfl ?_
 have hm:=mul_le_of (a:=a) (b:=b) (l:=l) om om om om
 refine jCO 3 rfl<|sMul a b<|jOR 5 rfl<|retT [I (a*b), .bool true] ?_
 obtain ⟨e1,e2⟩:=mul_t (a:=a) (b:=b) (l:=l) om
 exact ⟨by rw [e1,e2];rfl,hS⟩
def areaOK (w h m:Int):Bool:=decide (sizeP w h m)
def areaV (w h m:Int):Int:=if areaOK w h m=true then w*h else 0
theorem area_eq {w h m:Int} (h1:1<=w/\w<=128) (h2:1<=h/\h<=128) (h3:1<=m/\m<=4294967296):areaOK w h m=mulOK w h 4096/\areaV w h m=mulV w h 4096:=by
  have e:areaOK w h m=mulOK w h 4096:=(by unfold areaOK mulOK;exact decide_eq_decide.2 (by unfold sizeP;omega))
  exact ⟨e,(by unfold areaV mulV;rw [e])⟩
theorem area_no {w h m:Int} (h1:¬((1<=w/\w<=128)/\(1<=h/\h<=128)/\1<=m/\m<=4294967296)):areaOK w h m=false/\areaV w h m=0:=by
  have e:areaOK w h m=false:=decide_eq_false (by unfold sizeP;omega)
  exact ⟨e,(by unfold areaV;rw [e];rfl)⟩
theorem p4_area (w0:Int) (h0:Int) (m0:Int) (hS:Sat W w (H::F)):
  Ro prog 94 #[I w0,I h0,I m0] (.tuple #[I (areaV w0 h0 m0), .bool (areaOK w0 h0 m0)]) W w (H::F):=by
 refine callsK 35 func94 rfl<|jCO 12 rfl<|sD 10 (w0<1) (fun a0=>jOR 30 rfl<|retT [I 0, .bool false]<|(by obtain ⟨e1,e2⟩:=area_no (w:=w0) (h:=h0) (m:=m0) om;exact ⟨by rw [e1,e2];rfl,hS⟩)) fun a0=>pu4<|sD 14 (w0>128) (fun b0=>jOR 26 rfl<|retT [I 0, .bool false]<|(by obtain ⟨e1,e2⟩:=area_no (w:=w0) (h:=h0) (m:=m0) om;exact ⟨by rw [e1,e2];rfl,hS⟩)) fun b0=>pu4<|sD 18 (h0<1) (fun c0=>jOR 22 rfl<|retT [I 0, .bool false]<|(by obtain ⟨e1,e2⟩:=area_no (w:=w0) (h:=h0) (m:=m0) om;exact ⟨by rw [e1,e2];rfl,hS⟩)) fun c0=>pu4<|sD 22 (h0>128) (fun d0=>jOR 18 rfl<|retT [I 0, .bool false]<|(by obtain ⟨e1,e2⟩:=area_no (w:=w0) (h:=h0) (m:=m0) om;exact ⟨by rw [e1,e2];rfl,hS⟩)) fun d0=>pu4<|sD 26 (m0<1) (fun e0=>jOR 14 rfl<|retT [I 0, .bool false]<|(by obtain ⟨e1,e2⟩:=area_no (w:=w0) (h:=h0) (m:=m0) om;exact ⟨by rw [e1,e2];rfl,hS⟩)) fun e0=>jOC 5 rfl<|cD (m0>4294967296) (fun f0=>jCR 8 rfl<|retT [I 0, .bool false]<|(by obtain ⟨e1,e2⟩:=area_no (w:=w0) (h:=h0) (m:=m0) om;exact ⟨by rw [e1,e2];rfl,hS⟩)) fun f0=>jCO 6 rfl<|cS (p1_mul w0 h0 4096 (od) hS.flat) fun _ g0=>jOR 7 rfl<|retT [I (mulV w0 h0 4096), .bool (mulOK w0 h0 4096)] ?_
 obtain ⟨e1,e2⟩:=area_eq (w:=w0) (h:=h0) (m:=m0) om om om
 exact ⟨by rw [e1,e2];rfl,g0⟩
theorem p4_valid (p:Plane) (hp:Plane.Ok [H] p) (hS:Sat W w (H::F)):
  Ro prog 52 #[.agg (encPlane p).toArray] (.bool (planeOK p.v)) W w (H::F):=by
 have g0:=hp.pix.ll
 refine callsK 42 func52 rfl<|jCO 2 rfl<|sBx hS (encPlane p) fun _ _ f0=>gOO f0 11 [0,0,0] rfl<|cS (p4_area p.w p.h p.max_ f0.flat) fun _ b0=>jOO 13 rfl<|SBn 19 (areaOK p.w p.h p.max_) (fun c0=>jOR 16 rfl<|retT [.bool false]<|⟨rB (planeOK_f1 (p:=p.v) (by intro h9;exact c0 (decide_eq_true h9.1))).symm,(b0.dropAt 0 rfl)⟩) fun c0=>gOC b0 8 [0] rfl<|CN (p.pix.n:Int) (areaV p.w p.h p.max_) (fun h0=>jCR 7 rfl<|retT [.bool false]<|⟨rB (planeOK_f1 (p:=p.v) (by have hx:=c0;unfold areaV at*;rw [if_pos hx] at*;simp only [Plane.v];omega)).symm,(b0.dropAt 0 rfl)⟩) fun h0=>jCC 4 rfl ?_
 have i0:sizeP p.v.w p.v.h p.v.max_/\(p.v.pix.length:Int)=p.v.w*p.v.h:=by have hx:=c0;unfold areaV at*;rw [if_pos hx] at*;exact ⟨of_decide_eq_true hx,by simp only [Plane.v];omega⟩
 refine gCC b0 8 [0] rfl<|loopF [1,27,28] (γ:=Nat) (fun i R=>⟨[(29,I (i:Int))],R,p.pix.n-i,i<=p.pix.n/\(pixOK p.max_ (p.pix.l.take i)=true)⟩) 0 ⟨b0,om,by rfl⟩ ?_
 rintro i ρ _ ⟨a0,hi,hE⟩
 exact jCC 6 rfl<|CD ((i:Int)<(p.pix.n:Int)) (fun j0=>jCR 11 rfl<|retT [.bool true]<|⟨rB (planeOK_t (p:=p.v) i0 (all_of_take hE (by simp only [Plane.v];omega))).symm,(a0.dropAt 0 rfl)⟩) fun j0=>jCO 6 rfl<|sIN hp.pix i fun e0 _ _ d0 l0=>sMp a0 (l0.up 1 rfl) 0 (I e0)<|jOO 8 rfl<|sD 35 (e0<0) (fun m0=>jOR 19 rfl<|retT [.bool false]<|⟨rB (planeOK_f2 (p:=p.v) (all_false_at d0 (decide_eq_false (by simp only [Plane.v];omega)))).symm,(a0.dropAt 0 rfl)⟩) fun m0=>gOC a0 7 [0] rfl<|CD (e0>p.max_) (fun o0=>jCO 4 rfl<|sAdd (i:Int) 1<|jOI 2 rfl<|⟨i+1,od,alB,a0,om,all_succ hE d0 (decide_eq_true om)⟩) fun o0=>jCR 11 rfl<|retT [.bool false]<|⟨rB (planeOK_f2 (p:=p.v) (all_false_at d0 (decide_eq_false (by simp only [Plane.v];omega)))).symm,(a0.dropAt 0 rfl)⟩
theorem p7_within (x:Int) (m:Int) (hm:-4611686018427387904<=m/\m<=4611686018427387904) (hS:Sat W w (H::F)):
  Ro prog 162 #[I x,I m] (.bool (decide (-m<=x/\x<=m))) W w (H::F):=by
 exact callsK 14 func162 rfl<|jCO 8 rfl<|stepY (I (-m)) rfl rfl (Y_neg m rfl kr)<|pu3<|SD 9 ((-m)<=x) (fun a0=>jOR 8 rfl<|retT [.bool false]<|⟨rB bq,hS⟩) fun a0=>jOR 8 rfl<|retT [.bool (decide ((x:Int)<=m))]<|⟨rB bq,hS⟩
theorem p7_weights (ax:Option Addr) (nx kx:Nat) (x:List Int) (hx:RdT Go.E.encI 1 [H] ax nx kx x) (hS:Sat W w (H::F)):
  Ro prog 159 #[.slice ax nx kx] (I (wCode x)) W w (H::F):=by
 have k0:=hx.ll
 refine callsK 23 func159 rfl<|jCO 12 rfl<|sE 8 (nx:Int) 0 (fun e0=>jOR 14 rfl<|retT [I 9]<|⟨by unfold wCode;rw [if_pos om];rfl,hS⟩) fun e0=>jOC 6 rfl<|cD ((nx:Int)>81) (fun f0=>jCR 7 rfl<|retT [I 9]<|⟨by unfold wCode;rw [if_pos om];rfl,hS⟩) fun f0=>jCC 11 rfl<|loopF [13,14] (γ:=Nat) (fun i R=>⟨[(15,I (i:Int))],R,nx-i,i<=nx/\(areW (x.take i)=true)⟩) 0 ⟨hS,om,by rfl⟩ ?_
 rintro i ρ _ ⟨b0,hi,hE⟩
 exact jCC 6 rfl<|CD ((i:Int)<(nx:Int)) (fun g0=>jCR 11 rfl<|retT [I 0]<|(by have j0:areW x=true:=all_of_take hE om;exact ⟨by unfold wCode;rw [if_neg om,if_pos j0];rfl,b0⟩)) fun g0=>jCO 6 rfl<|sIN hx i fun a0 _ _ c0 h0=>sMp b0 (h0.up 0 rfl) 0 (I a0)<|jOO 6 rfl<|cS (p7_within a0 32767 (od) b0.flat) fun _ d0=>jOC 3 rfl<|cDn (-(32767:Int)<=a0/\a0<=(32767:Int)) (fun i0=>jCO 4 rfl<|sAdd (i:Int) 1<|jOI 2 rfl<|⟨i+1,od,alB,d0,om,all_succ hE c0 (decide_eq_true om)⟩) fun i0=>jCR 11 rfl<|retT [I 10]<|(by have j0:areW x=false:=all_false_at c0 (decide_eq_false om);exact ⟨by unfold wCode;rw [if_neg om,j0,if_neg (by decide)];rfl,d0⟩)
theorem p7_bounds (ax:Option Addr) (nx kx:Nat) (x:List Int) (lo:Int) (up:Int) (hx:RdT Go.E.encI 1 [H] ax nx kx x) (hS:Sat W w (H::F)):
  Ro prog 160 #[.slice ax nx kx,I lo,I up] (.tuple #[I (bndLo x lo up),I (bndHi x lo up), .bool (bndOK x lo up)]) W w (H::F):=by
 have t0:=hx.ll
 refine callsK 66 func160 rfl<|jCO 11 rfl<|cS (p7_weights ax nx kx x (hx.fl 0) hS.flat) fun _ c0=>pu2<|SN 16 (wCode x) 0 (fun i0=>jOR 26 rfl<|retT [I 0,I 0, .bool false]<|(by obtain ⟨e1,e2,e3⟩:=bnd_bad (l:=x) (lo:=lo) (hi:=up) om;exact ⟨by rw [e1,e2,e3];rfl,c0⟩)) fun i0=>pu5<|sD 21 (lo>up) (fun j0=>jOR 21 rfl<|retT [I 0,I 0, .bool false]<|(by obtain ⟨e1,e2,e3⟩:=bnd_bad (l:=x) (lo:=lo) (hi:=up) om;exact ⟨by rw [e1,e2,e3];rfl,c0⟩)) fun j0=>pu1<|gY<|cS (p7_within lo 68719476736 (od) c0.flat) fun _ e0=>pu3<|SDn 26 (-(68719476736:Int)<=lo/\lo<=(68719476736:Int)) (fun k0=>jOR 16 rfl<|retT [I 0,I 0, .bool false]<|(by obtain ⟨e1,e2,e3⟩:=bnd_bad (l:=x) (lo:=lo) (hi:=up) om;exact ⟨by rw [e1,e2,e3];rfl,e0⟩)) fun k0=>pu1<|gY<|cS (p7_within up 68719476736 (od) e0.flat) fun _ f0=>jOC 4 rfl<|CDn (-(68719476736:Int)<=up/\up<=(68719476736:Int)) (fun l0=>jCR 9 rfl<|retT [I 0,I 0, .bool false]<|(by obtain ⟨e1,e2,e3⟩:=bnd_bad (l:=x) (lo:=lo) (hi:=up) om;exact ⟨by rw [e1,e2,e3];rfl,f0⟩)) fun l0=>jCC 3 rfl ?_
 obtain ⟨w0,u0,hw⟩:=wCode_len (l:=x) om
 refine jCC 14 rfl<|loopF [1,2,31,32] (γ:=Nat×Int×Int) (fun ⟨i,a,b⟩ R=>⟨[(33,I (i:Int)),(9,I a),(10,I b)],R,nx-i,i<=nx/\(a=sumLo (x.take i) lo up)/\(b=sumHi (x.take i) lo up)/\(-(2251799813685248*(i:Int))<=a/\a<=2251799813685248*(i:Int)/\-(2251799813685248*(i:Int))<=b/\b<=2251799813685248*(i:Int))⟩) (0,0,0) ⟨f0,om,by rfl,by rfl,om⟩ ?_
 rintro ⟨i,a,b⟩ ρ _ ⟨d0,hi,ha,hb,v0⟩
 exact jCC 6 rfl<|CD ((i:Int)<(nx:Int)) (fun m0=>jCO 9 rfl<|cS (p7_within a 17592186044416 (od) d0.flat) fun _ g0=>pu2<|SDn 59 (-(17592186044416:Int)<=a/\a<=(17592186044416:Int)) (fun n0=>jOR 16 rfl<|retT [I 0,I 0, .bool false]<|(by obtain ⟨e1,e2,e3⟩:=bnd_bad2 (l:=x) (i:=i) ha hb om (by unfold accP;omega);exact ⟨by rw [e1,e2,e3];rfl,g0⟩)) fun n0=>pu1<|gY<|cS (p7_within b 17592186044416 (od) g0.flat) fun _ h0=>jOC 4 rfl<|CDn (-(17592186044416:Int)<=b/\b<=(17592186044416:Int)) (fun o0=>jCR 9 rfl<|retT [I 0,I 0, .bool false]<|(by obtain ⟨e1,e2,e3⟩:=bnd_bad2 (l:=x) (i:=i) ha hb om (by unfold accP;omega);exact ⟨by rw [e1,e2,e3];rfl,h0⟩)) fun o0=>jCR 12 rfl<|retT [I a,I b, .bool true]<|(by obtain ⟨e1,e2,e3⟩:=bnd_ret (l:=x) (i:=i) om om om ha hb om (by unfold accP;omega) (by unfold accP;omega);exact ⟨by rw [e1,e2,e3];rfl,h0⟩)) fun m0=>jCO 6 rfl<|sIN hx i fun a0 _ _ b0 p0=>(by have q0:=areW_at hw b0;have r0:=mul_abs (A:=32767) (B:=68719476736) q0 (b:=lo) om;have s0:=mul_abs (A:=32767) (B:=68719476736) q0 (b:=up) om;exact sMp d0 (p0.up 0 rfl) 0 (I a0)<|jOO 8 rfl<|sMul a0 lo<|pu2<|sMul a0 up<|stepY (I (min (a0*lo) (a0*up))) rfl rfl (Y_min2 (a0*lo) (a0*up) rfl rfl kr kr)<|sAdd a (min (a0*lo) (a0*up))<|jOO 7 rfl<|sMul a0 lo<|pu2<|sMul a0 up<|stepY (I (max (a0*lo) (a0*up))) rfl rfl (Y_max2 (a0*lo) (a0*up) rfl rfl kr kr)<|sAdd b (max (a0*lo) (a0*up))<|jOO 5 rfl<|sAdd (i:Int) 1<|jOI 2 rfl<|⟨(i+1,(a+(min (a0*lo) (a0*up))),(b+(max (a0*lo) (a0*up)))),od,alB,d0,om,by have e:=sum_at (f:=fun w=>min (w*lo) (w*up)) b0;unfold sumLo at*;omega,by have e:=sum_at (f:=fun w=>max (w*lo) (w*up)) b0;unfold sumHi at*;omega,om⟩)
theorem p7_shift (a:Int) (s:Int) (hS:Sat W w (H::F)):
  Ro prog 129 #[I a,I s] (I (shiftV a s)) W w (H::F):=by
 exact callsK 26 func129 rfl<|jCO 9 rfl<|cS (p7_within a 17592186044416 (od) hS.flat) fun _ a0=>pu2<|SDn 8 (-(17592186044416:Int)<=a/\a<=(17592186044416:Int)) (fun b0=>jOR 17 rfl<|retT [I 0]<|⟨by unfold shiftV;rw [if_neg (by unfold accP;omega)];rfl,a0⟩) fun b0=>pu4<|sD 12 (s<0) (fun c0=>jOR 13 rfl<|retT [I 0]<|⟨by unfold shiftV;rw [if_neg (by unfold accP;omega)];rfl,a0⟩) fun c0=>jOC 5 rfl<|cD (s>24) (fun d0=>jCR 7 rfl<|retT [I 0]<|⟨by unfold shiftV;rw [if_neg (by unfold accP;omega)];rfl,a0⟩) fun d0=>jCC 9 rfl<|cE s 0 (fun e0=>jCR 8 rfl<|retT [I a]<|⟨by unfold shiftV;rw [if_pos (by unfold accP;omega),if_pos om];rfl,a0⟩) fun e0=>jCC 3 rfl<|(by have hp:=pow2_pos ((s-1)).toNat;have f0:=pow2_le (a:=((s-1)).toNat) (b:=24) om;exact jCO 3 rfl<|sSub s 1<|stepY (I (2^((s-1)).toNat)) rfl rfl (Y_shl1 (k':= .i64) (s-1) rfl kr kr om)<|sAdd a (2^((s-1)).toNat)<|pu1<|stepY (I ((a+(2^((s-1)).toNat))/2^s.toNat)) rfl rfl (Y_shrS (k':= .i64) (a+(2^((s-1)).toNat)) s rfl kr kr om)<|jOR 4 rfl<|retT [I ((a+(2^((s-1)).toNat))/2^s.toNat)]<|⟨by unfold shiftV;rw [if_pos (by unfold accP;omega),if_neg om];rfl,a0⟩)
theorem p7_span (lo:Int) (up:Int) (s:Int) (hS:Sat W w (H::F)):
    Ro prog 163 #[.int .i64 lo, .int .i64 up, .int .i64 s] (.tuple #[.int .i64 (shiftV lo s), .int .i64 (shiftV up s)]) W w (H::F):=by
  exact callsK 14 func163 rfl<|jCO 10 rfl<|cS (p7_shift lo s hS.flat) fun c0 a0=>pu2<|cS (p7_shift up s a0.flat) fun d0 b0=>jOR 5 rfl<|retT [.int .i64 (shiftV lo s), .int .i64 (shiftV up s)]<|⟨rfl,b0⟩
theorem p3_valid (e0:Edge) (m:Int) (hS:Sat W w (H::F)):
  Ro prog 124 #[.agg #[I e0.policy,I e0.fill],I m] (.bool (decide ((e0.policy=3/\0<=e0.fill/\e0.fill<=m)\/(0<=e0.policy/\e0.policy<3/\e0.fill=0)))) W w (H::F):=by
 exact callsK 25 func124 rfl<|jCO 2 rfl<|sBx hS [I e0.policy,I e0.fill] fun _ _ a0=>gOC a0 18 [0] rfl<|cE e0.policy 0 (fun b0=>jCC 2 rfl<|cT _ (beq_iff_eq.2 b0)<|gCR a0 11 [0] rfl<|retT [.bool ((e0.fill:Int)==0)]<|⟨rB bq,(a0.dropAt 0 rfl)⟩) fun b0=>jCC 6 rfl<|cE e0.policy 1 (fun c0=>jCC 2 rfl<|cT _ (beq_iff_eq.2 c0)<|gCR a0 11 [0] rfl<|retT [.bool ((e0.fill:Int)==0)]<|⟨rB bq,(a0.dropAt 0 rfl)⟩) fun c0=>jCC 5 rfl<|cE e0.policy 2 (fun g0=>gCR a0 11 [0] rfl<|retT [.bool ((e0.fill:Int)==0)]<|⟨rB bq,(a0.dropAt 0 rfl)⟩) fun g0=>jCC 6 rfl<|CE e0.policy 3 (fun i0=>jCR 9 rfl<|retT [.bool false]<|⟨rB bq,(a0.dropAt 0 rfl)⟩) fun i0=>gCO a0 6 [0] rfl<|SD 19 (0<=e0.fill) (fun k0=>jOR 11 rfl<|retT [.bool false]<|⟨rB bq,(a0.dropAt 0 rfl)⟩) fun k0=>gOR a0 11 [0] rfl<|retT [.bool (decide ((e0.fill:Int)<=m))]<|⟨rB bq,(a0.dropAt 0 rfl)⟩
theorem p8_first (x:Int) (hS:Sat W w (H::F)):
  Ro prog 188 #[I x] (.bool (decide ((-128:Int)<=x/\x<=(256:Int)))) W w (H::F):=by
 exact callsK 9 func188 rfl<|jCO 10 rfl<|SD 5 (-128<=x) (fun a0=>jOR 7 rfl<|retT [.bool false]<|⟨rB bq,hS⟩) fun a0=>jOR 7 rfl<|retT [.bool (decide ((x:Int)<=256))]<|⟨rB bq,hS⟩
theorem p8_valid (ax:Option Addr) (nx kx:Nat) (x:List Tap) (m:Int) (hx:RdT encTap 2 [H] ax nx kx x) (dx:∀z∈x,Tap.Ok [H] z) (hS:Sat W w (H::F)):
  Ro prog 164 #[.slice ax nx kx,I m] (I (tapsCode (x.map Tap.v) m)) W w (H::F):=by
 have F0:=hx.le;have A0:=hx.len
 refine callsK 60 func164 rfl<|jCO 11 rfl<|sD 11 (m<1) (fun i0=>jOR 23 rfl<|retT [I 8]<|(by have B0:(x.map Tap.v).length=nx:=(by simp [A0]);exact ⟨by unfold tapsCode;rw [if_neg om];rfl,hS⟩)) fun i0=>pu4<|sD 15 (m>128) (fun j0=>jOR 19 rfl<|retT [I 8]<|(by have B0:(x.map Tap.v).length=nx:=(by simp [A0]);exact ⟨by unfold tapsCode;rw [if_neg om];rfl,hS⟩)) fun j0=>pu5<|sE 20 (nx:Int) 0 (fun k0=>jOR 14 rfl<|retT [I 8]<|(by have B0:(x.map Tap.v).length=nx:=(by simp [A0]);exact ⟨by unfold tapsCode;rw [if_neg om];rfl,hS⟩)) fun k0=>jOC 6 rfl<|cD ((nx:Int)>128) (fun l0=>jCR 7 rfl<|retT [I 8]<|(by have B0:(x.map Tap.v).length=nx:=(by simp [A0]);exact ⟨by unfold tapsCode;rw [if_neg om];rfl,hS⟩)) fun l0=>jCC 11 rfl<|loopF [25,26] (γ:=Nat) (fun i R=>⟨[(27,I (i:Int))],R,nx-i,i<=nx/\(((x.map Tap.v).take i).all (fun x=>decide (tapCode x=0))=true)⟩) 0 ⟨hS,om,by rfl⟩ ?_
 rintro i ρ _ ⟨f0,hi,hE⟩
 refine jCC 6 rfl<|CD ((i:Int)<(nx:Int)) (fun m0=>jCR 11 rfl<|retT [I 0]<|(by have B0:(x.map Tap.v).length=nx:=(by simp [A0]);exact ⟨by unfold tapsCode;rw [if_pos om,firstErr_none hE om];rfl,f0⟩)) fun m0=>jCO 6 rfl<|sIN hx i fun a0 _ _ b0 n0=>?_
 have E0:=(dx a0 (List.mem_of_getElem? b0)).weights.len;have D0:=(dx a0 (List.mem_of_getElem? b0)).weights.le
 refine sMA f0 (n0.up 0 rfl) 0 [I a0.first, .slice a0.weights.a a0.weights.n a0.weights.k]<|sAlloc f0 zeroValue121 fun _ _ o0=>sTk o0 0 rfl [I a0.first, .slice a0.weights.a a0.weights.n a0.weights.k] fun _ c0=>gOO c0 10 [0] rfl<|sE 35 (a0.weights.n:Int) 0 (fun p0=>jOR 20 rfl<|retT [I 9]<|(by have q0:=(c0.dropAt 0 rfl);have B0:(x.map Tap.v).length=nx:=(by simp [A0]);have v0:tapC a0.first a0.weights.l=9:=(by unfold tapC;rw [if_pos om]);exact ⟨by unfold tapsCode;rw [if_pos om,firstErr_at hE (map_at (f:=Tap.v) b0) (show tapC a0.first a0.weights.l≠0 by omega)];exact congrArg (fun c=>Ending.returned (packed [I c])) v0.symm,q0⟩)) fun p0=>gOC c0 7 [0] rfl<|cD ((a0.weights.n:Int)>8) (fun r0=>jCR 12 rfl<|retT [I 9]<|(by have s0:=(c0.dropAt 0 rfl);have B0:(x.map Tap.v).length=nx:=(by simp [A0]);have v0:tapC a0.first a0.weights.l=9:=(by unfold tapC;rw [if_pos om]);exact ⟨by unfold tapsCode;rw [if_pos om,firstErr_at hE (map_at (f:=Tap.v) b0) (show tapC a0.first a0.weights.l≠0 by omega)];exact congrArg (fun c=>Ending.returned (packed [I c])) v0.symm,s0⟩)) fun r0=>gCC c0 12 [0] rfl<|loopF [25,26,27,6,42,43] (γ:=Nat) (fun k R=>⟨[(44,I (k:Int))],R,a0.weights.n-k,k<=a0.weights.n/\(areW (a0.weights.l.take k)=true)⟩) 0 ⟨c0,om,by rfl⟩ ?_
 rintro k ρ _ ⟨d0,hk,hK⟩
 refine jCC 6 rfl<|CD ((k:Int)<(a0.weights.n:Int)) (fun t0=>gCO d0 9 [0] rfl<|cS (p8_first a0.first d0.flat) fun _ h0=>jOC 3 rfl<|cDn ((-128:Int)<=a0.first/\a0.first<=(256:Int)) (fun u0=>jCO 4 rfl<|sAdd (i:Int) 1<|jOI 2 rfl<|(by have C0:areW a0.weights.l=true:=all_of_take hK om;have v0:tapC a0.first a0.weights.l=0:=(by unfold tapC;rw [if_neg om,if_pos C0,if_pos om]);exact ⟨i+1,od,alB,(h0.dropAt 0 rfl),om,all_succ hE (map_at (f:=Tap.v) b0) (decide_eq_true v0)⟩)) fun u0=>jCR 11 rfl<|retT [I 2]<|(by have w0:=(h0.dropAt 0 rfl);have B0:(x.map Tap.v).length=nx:=(by simp [A0]);have C0:areW a0.weights.l=true:=all_of_take hK om;have v0:tapC a0.first a0.weights.l=2:=(by unfold tapC;rw [if_neg om,if_pos C0,if_neg om]);exact ⟨by unfold tapsCode;rw [if_pos om,firstErr_at hE (map_at (f:=Tap.v) b0) (show tapC a0.first a0.weights.l≠0 by omega)];exact congrArg (fun c=>Ending.returned (packed [I c])) v0.symm,w0⟩)) fun t0=>jCO 6 rfl<|sII (dx a0 (List.mem_of_getElem? b0)).weights (k:Int) fun g0 _ _ e0 x0=>?_
 rw [Int.toNat_natCast] at e0
 refine sMp d0 (x0.up 1 rfl) 0 (I g0)<|jOO 8 rfl<|sD 50 (g0<(-32767)) (fun y0=>jOR 22 rfl<|retT [I 10]<|(by have z0:=(d0.dropAt 0 rfl);have B0:(x.map Tap.v).length=nx:=(by simp [A0]);have C0:areW a0.weights.l=false:=all_false_at e0 (decide_eq_false om);have v0:tapC a0.first a0.weights.l=10:=(by unfold tapC;rw [if_neg om,C0,if_neg (by decide)]);exact ⟨by unfold tapsCode;rw [if_pos om,firstErr_at hE (map_at (f:=Tap.v) b0) (show tapC a0.first a0.weights.l≠0 by omega)];exact congrArg (fun c=>Ending.returned (packed [I c])) v0.symm,z0⟩)) fun y0=>jOC 5 rfl<|CD (g0>32767) (fun a1=>jCO 4 rfl<|sAdd (k:Int) 1<|jOI 2 rfl<|⟨k+1,od,alB,d0,om,all_succ hK e0 (decide_eq_true om)⟩) fun a1=>jCR 16 rfl<|retT [I 10] ?_
 have b1:=(d0.dropAt 0 rfl)
 have B0:(x.map Tap.v).length=nx:=by simp [A0]
 have C0:areW a0.weights.l=false:=all_false_at e0 (decide_eq_false om)
 have v0:tapC a0.first a0.weights.l=10:=by unfold tapC;rw [if_neg om,C0,if_neg (by decide)]
 exact ⟨by unfold tapsCode;rw [if_pos om,firstErr_at hE (map_at (f:=Tap.v) b0) (show tapC a0.first a0.weights.l≠0 by omega)];exact congrArg (fun c=>Ending.returned (packed [I c])) v0.symm,b1⟩
theorem p9_check (mx:Int) (kw:Int) (kh:Int) (aws:Option Addr) (nws kws:Nat) (ws:List Int) (sh:Int) (out:Int) (hws:RdT Go.E.encI 1 [H] aws nws kws ws) (hS:Sat W w (H::F)):
  Ro prog 126 #[I mx,I kw,I kh, .slice aws nws kws,I sh,I out] (I (convCode mx kw kh ws sh out)) W w (H::F):=by
 have t0:=hws.ll
 refine callsK 72 func126 rfl<|jCC 6 rfl<|cutF hS 0 [0,3,4,5] (γ:=Unit) (fun _ R=>⟨[(37, .bool (decide (¬((1<=kw/\kw<=9)/\(1<=kh/\kh<=9)/\(ws.length:Int)=kw*kh))))],R,0,True⟩) ?_ ?_
 ·exact jCO 4 rfl<|sD 18 (kw<1) (fun f0=>jOI 20 rfl<|⟨(),⟨⟨(mT om),trivial⟩,sA⟩,hS,trivial⟩) fun f0=>pu4<|sD 22 (kw>9) (fun g0=>jOI 16 rfl<|⟨(),⟨⟨(mT om),trivial⟩,sA⟩,hS,trivial⟩) fun g0=>pu4<|sD 26 (kh<1) (fun h0=>jOI 12 rfl<|⟨(),⟨⟨(mT om),trivial⟩,sA⟩,hS,trivial⟩) fun h0=>pu4<|sD 30 (kh>9) (fun i0=>jOI 8 rfl<|⟨(),⟨⟨(mT om),trivial⟩,sA⟩,hS,trivial⟩) fun i0=>pu4<|gY<|(by have w0:=mul_bd (a:=kw) (b:=kh) (A:=9) (B:=9) om om;exact sMul kw kh<|jOI 3 rfl<|⟨(),⟨⟨(mB (((nws:Int):Int)!=(kw*kh)) bm),trivial⟩,sA⟩,hS,trivial⟩)
 rintro _ ρ _ ⟨b0,_⟩
 refine cD (¬((1<=kw/\kw<=9)/\(1<=kh/\kh<=9)/\(ws.length:Int)=kw*kh)) (fun j0=>jCR 7 rfl<|retT [I 9]<|⟨(by unfold convCode;exact ssp),b0⟩) fun j0=>jCC 3 rfl<|cutF b0 0 [0,3,5] (γ:=Unit) (fun _ R=>⟨[(48, .bool (decide (¬(areW ws=true/\0<=sh/\sh<=24))))],R,0,True⟩) ?_ ?_
 · exact (by have u0:=Int.mul_pos (a:=kw) (b:=kh) om om;have v0:=mul_bd (a:=kw) (b:=kh) (A:=9) (B:=9) om om;have s0:wCode ws=0↔areW ws=true:=(by unfold wCode;rw [if_neg om];split<;>simp_all);exact jCO 2 rfl<|cS (p7_weights aws nws kws ws (hws.fl 0) b0.flat) fun _ c0=>pu2<|SN 41 (wCode ws) 0 (fun k0=>jOI 8 rfl<|⟨(),⟨⟨(mT (by (rw [<-s0];omega))),trivial⟩,sA⟩,c0,trivial⟩) fun k0=>pu4<|sD 45 (sh<0) (fun l0=>jOI 4 rfl<|⟨(),⟨⟨(mT (by (rw [<-s0];omega))),trivial⟩,sA⟩,c0,trivial⟩) fun l0=>jOI 4 rfl<|⟨(),⟨⟨(mB (decide (sh>24)) (by rw [Bool.eq_iff_iff];simp only [decide_eq_true_eq,beq_iff_eq,bne_iff_ne,ne_eq,Bool.not_eq_true',decide_eq_false_iff_not,gt_iff_lt,ge_iff_le,Bool.and_eq_true,Bool.or_eq_true,Bool.not_eq_eq_eq_not,Bool.not_true,Bool.and_eq_false_imp,beq_eq_false_iff_ne]<;>(rw [<-s0];omega))),trivial⟩,sA⟩,c0,trivial⟩)
 rintro _ ρ _ ⟨a0,_⟩
 refine cD (¬(areW ws=true/\0<=sh/\sh<=24)) (fun m0=>jCR 7 rfl<|retT [I 10]<|⟨(by unfold convCode;exact ssp),a0⟩) fun m0=>jCC 3 rfl<|cutF a0 0 [0,3] (γ:=Unit) (fun _ R=>⟨[(62, .bool (decide (¬((1<=mx/\mx<=4294967296)/\1<=out/\out<=4294967296))))],R,0,True⟩) ?_ ?_
 rotate_left
 · exact (by rintro _ ρ _ ⟨d0,_⟩;exact cD (¬((1<=mx/\mx<=4294967296)/\1<=out/\out<=4294967296)) (fun n0=>jCR 7 rfl<|retT [I 2]<|⟨(by unfold convCode;exact ssp),d0⟩) fun n0=>jCO 7 rfl<|cS (p7_bounds aws nws kws ws 0 mx (hws.fl 0) d0.flat) fun _ e0=>jOC 15 rfl<|CBn (bndOK ws 0 mx) (fun o0=>jCR 7 rfl<|retT [I 11]<|⟨(by unfold convCode;exact ssp),e0⟩) fun o0=>jCR 8 rfl<|retT [I 0]<|⟨(by unfold convCode;exact ssp),e0⟩)
 exact jCO 4 rfl<|sD 51 (mx<1) (fun p0=>jOI 12 rfl<|⟨(),⟨⟨(mT om),trivial⟩,sA⟩,a0,trivial⟩) fun p0=>pu4<|sD 55 (mx>4294967296) (fun q0=>jOI 8 rfl<|⟨(),⟨⟨(mT om),trivial⟩,sA⟩,a0,trivial⟩) fun q0=>pu4<|sD 59 (out<1) (fun r0=>jOI 4 rfl<|⟨(),⟨⟨(mT om),trivial⟩,sA⟩,a0,trivial⟩) fun r0=>jOI 4 rfl<|⟨(),⟨⟨(mB (decide (out>4294967296)) bm),trivial⟩,sA⟩,a0,trivial⟩
theorem p10_check (mx:Int) (arow:Option Addr) (nrow krow:Nat) (row:List Int) (acol:Option Addr) (ncol kcol:Nat) (col:List Int) (sh:Int) (sh2:Int) (out:Int) (hrow:RdT Go.E.encI 1 [H] arow nrow krow row) (hcol:RdT Go.E.encI 1 [H] acol ncol kcol col) (hS:Sat W w (H::F)):
  Ro prog 130 #[I mx, .slice arow nrow krow, .slice acol ncol kcol,I sh,I sh2,I out] (I (sepCode mx row col sh sh2 out)) W w (H::F):=by
 have z0:=hrow.ll
 have y0:=hcol.ll
 refine callsK 98 func130 rfl<|jCC 15 rfl<|loopM 3<|roundK<|jCO 23 rfl<|sE 30 (nrow:Int) 0 (fun g0=>jOR 18 rfl<|retT [I 9]<|⟨(by unfold sepCode;exact ssp),hS⟩) fun g0=>jOC 6 rfl<|cD ((nrow:Int)>9) (fun h0=>jCR 11 rfl<|retT [I 9]<|⟨(by unfold sepCode;exact ssp),hS⟩) fun h0=>jCI 7 rfl<|roundK<|jCO 23 rfl<|sE 30 (ncol:Int) 0 (fun i0=>jOR 18 rfl<|retT [I 9]<|⟨(by unfold sepCode;exact ssp),hS⟩) fun i0=>jOC 6 rfl<|cD ((ncol:Int)>9) (fun j0=>jCR 11 rfl<|retT [I 9]<|⟨(by unfold sepCode;exact ssp),hS⟩) fun j0=>jCI 7 rfl<|roundK<|jCC 13 rfl<|cutF hS 0 [0,1,2,3,4,5] (γ:=Unit) (fun _ R=>⟨[(43, .bool (decide (¬(areW row=true/\areW col=true))))],R,0,True⟩) ?_ ?_
 · exact (by have B0:wCode row=0↔areW row=true:=(by unfold wCode;rw [if_neg om];split<;>simp_all);have A0:wCode col=0↔areW col=true:=(by unfold wCode;rw [if_neg om];split<;>simp_all);exact jCO 2 rfl<|cS (p7_weights arow nrow krow row (hrow.fl 0) hS.flat) fun _ c0=>pu2<|SN 39 (wCode row) 0 (fun k0=>jOI 5 rfl<|⟨(),⟨⟨(mT (by (rw [<-B0,<-A0];omega))),trivial⟩,sA⟩,c0,trivial⟩) fun k0=>pu1<|gY<|cS (p7_weights acol ncol kcol col (hcol.fl 0) c0.flat) fun _ l0=>jOI 3 rfl<|⟨(),⟨⟨(mB (((wCode col):Int)!=0) (by rw [Bool.eq_iff_iff];simp only [decide_eq_true_eq,beq_iff_eq,bne_iff_ne,ne_eq,Bool.not_eq_true',decide_eq_false_iff_not,gt_iff_lt,ge_iff_le,Bool.and_eq_true,Bool.or_eq_true,Bool.not_eq_eq_eq_not,Bool.not_true,Bool.and_eq_false_imp,beq_eq_false_iff_ne]<;>(rw [<-B0,<-A0];omega))),trivial⟩,sA⟩,l0,trivial⟩)
 rintro _ ρ _ ⟨a0,_⟩
 refine cD (¬(areW row=true/\areW col=true)) (fun m0=>jCR 7 rfl<|retT [I 10]<|⟨(by unfold sepCode;exact ssp),a0⟩) fun m0=>jCC 3 rfl<|cutF a0 0 [0,1,2,3,5] (γ:=Unit) (fun _ R=>⟨[(57, .bool (decide (¬((0<=sh/\sh<=24)/\0<=sh2/\sh2<=24))))],R,0,True⟩) ?_ ?_
 ·exact jCO 4 rfl<|sD 46 (sh<0) (fun n0=>jOI 12 rfl<|⟨(),⟨⟨(mT om),trivial⟩,sA⟩,a0,trivial⟩) fun n0=>pu4<|sD 50 (sh>24) (fun o0=>jOI 8 rfl<|⟨(),⟨⟨(mT om),trivial⟩,sA⟩,a0,trivial⟩) fun o0=>pu4<|sD 54 (sh2<0) (fun p0=>jOI 4 rfl<|⟨(),⟨⟨(mT om),trivial⟩,sA⟩,a0,trivial⟩) fun p0=>jOI 4 rfl<|⟨(),⟨⟨(mB (decide (sh2>24)) bm),trivial⟩,sA⟩,a0,trivial⟩
 rintro _ ρ _ ⟨b0,_⟩
 refine cD (¬((0<=sh/\sh<=24)/\0<=sh2/\sh2<=24)) (fun q0=>jCR 7 rfl<|retT [I 10]<|⟨(by unfold sepCode;exact ssp),b0⟩) fun q0=>jCC 3 rfl<|cutF b0 0 [0,1,2,3] (γ:=Unit) (fun _ R=>⟨[(71, .bool (decide (¬((1<=mx/\mx<=4294967296)/\1<=out/\out<=4294967296))))],R,0,True⟩) ?_ ?_
 ·exact jCO 4 rfl<|sD 60 (mx<1) (fun r0=>jOI 12 rfl<|⟨(),⟨⟨(mT om),trivial⟩,sA⟩,b0,trivial⟩) fun r0=>pu4<|sD 64 (mx>4294967296) (fun s0=>jOI 8 rfl<|⟨(),⟨⟨(mT om),trivial⟩,sA⟩,b0,trivial⟩) fun s0=>pu4<|sD 68 (out<1) (fun t0=>jOI 4 rfl<|⟨(),⟨⟨(mT om),trivial⟩,sA⟩,b0,trivial⟩) fun t0=>jOI 4 rfl<|⟨(),⟨⟨(mB (decide (out>4294967296)) bm),trivial⟩,sA⟩,b0,trivial⟩
 rintro _ ρ _ ⟨d0,_⟩
 exact cD (¬((1<=mx/\mx<=4294967296)/\1<=out/\out<=4294967296)) (fun u0=>jCR 7 rfl<|retT [I 2]<|⟨(by unfold sepCode;exact ssp),d0⟩) fun u0=>jCO 6 rfl<|cS (p7_bounds arow nrow krow row 0 mx (hrow.fl 0) d0.flat) fun _ e0=>jOC 16 rfl<|CBn (bndOK row 0 mx) (fun v0=>jCR 7 rfl<|retT [I 11]<|⟨(by unfold sepCode;exact ssp),e0⟩) fun v0=>jCO 7 rfl<|cS (p7_span (bndLo row 0 mx) (bndHi row 0 mx) sh e0.flat) fun _ w0=>jOO 13 rfl<|cS (p7_bounds acol ncol kcol col (shiftV (bndLo row 0 mx) sh) (shiftV (bndHi row 0 mx) sh) (hcol.fl 0) w0.flat) fun _ f0=>jOC 15 rfl<|CBn (bndOK col (shiftV (bndLo row 0 mx) sh) (shiftV (bndHi row 0 mx) sh)) (fun x0=>jCR 7 rfl<|retT [I 11]<|⟨(by unfold sepCode;exact ssp),f0⟩) fun x0=>jCR 8 rfl<|retT [I 0]<|⟨(by unfold sepCode;exact ssp),f0⟩
def accCode (x y:List TapV) (mx s:Int):Int:=if x.all (fun t=>bndOK t.weights 0 mx)=true then (if y.all (fun t=>bndOK t.weights (runLo (spLo mx s) x) (runHi (spHi mx s) x))=true then 0 else 11) else 11
theorem p11_acc (ax:Option Addr) (nx kx:Nat) (x:List Tap) (ay:Option Addr) (ny ky:Nat) (y:List Tap) (mx:Int) (sh:Int) (hx:RdT encTap 2 [H] ax nx kx x) (dx:∀z∈x,Tap.Ok [H] z) (hy:RdT encTap 2 [H] ay ny ky y) (dy:∀z∈y,Tap.Ok [H] z) (hS:Sat W w (H::F)):
  Ro prog 165 #[.slice ax nx kx, .slice ay ny ky,I mx,I sh] (I (accCode (x.map Tap.v) (y.map Tap.v) mx sh)) W w (H::F):=by
 have F0:=hx.ll
 have G0:=hy.ll
 refine callsK 74 func165 rfl<|jCC 20 rfl<|loopF [1,2,3,21,22] (γ:=Nat×Int×Int) (fun ⟨i,lo,up⟩ R=>⟨[(23,I (i:Int)),(9,I lo),(10,I up)],R,nx-i,i<=nx/\(lo=runLo (spLo mx sh) ((x.map Tap.v).take i)/\up=runHi (spHi mx sh) ((x.map Tap.v).take i))/\(((x.map Tap.v).take i).all (fun t=>bndOK t.weights 0 mx)=true)⟩) (0,0,0) ⟨hS,om,by exact ⟨rfl,rfl⟩,by rfl⟩ ?_
 rintro ⟨i,lo,up⟩ ρ _ ⟨e0,hi,hr,hE⟩
 refine jCC 6 rfl<|CD ((i:Int)<(nx:Int)) (fun l0=>jCC 7 rfl<|(by have A0:(x.map Tap.v).all (fun t=>bndOK t.weights 0 mx)=true:=all_of_take hE (by simp;omega);have C0:lo=runLo (spLo mx sh) (x.map Tap.v):=(by rw [hr.1,List.take_of_length_le (by simp;omega)]);have D0:up=runHi (spHi mx sh) (x.map Tap.v):=(by rw [hr.2,List.take_of_length_le (by simp;omega)]);refine jCC 7 rfl<|loopF [9,10,56,57] (γ:=Nat) (fun j R=>⟨[(58,I (j:Int))],R,ny-j,j<=ny/\(((y.map Tap.v).take j).all (fun t=>bndOK t.weights (runLo (spLo mx sh) (x.map Tap.v)) (runHi (spHi mx sh) (x.map Tap.v)))=true)⟩) 0 ⟨e0,om,by rfl⟩ ?_;rintro j ρ _ ⟨f0,hj,hF⟩;exact jCC 6 rfl<|CD ((j:Int)<(ny:Int)) (fun m0=>jCR 11 rfl<|retT [I 0]<|(by have B0:=all_of_take hF (by simp;omega);exact ⟨by unfold accCode;rw [if_pos A0,if_pos B0];rfl,f0⟩)) fun m0=>jCO 6 rfl<|sIN hy j fun b0 _ _ d0 n0=>(by have x0:=(dy b0 (List.mem_of_getElem? d0)).weights.len;have q0:=(dy b0 (List.mem_of_getElem? d0)).weights.le;exact sMA f0 (n0.up 0 rfl) 0 [I b0.first, .slice b0.weights.a b0.weights.n b0.weights.k]<|sAlloc f0 zeroValue121 fun _ _ o0=>sTk o0 0 rfl [I b0.first, .slice b0.weights.a b0.weights.n b0.weights.k] fun _ g0=>gOO g0 8 [0] rfl<|cS (p7_bounds b0.weights.a b0.weights.n b0.weights.k b0.weights.l lo up (RdT.flat ((dy b0 (List.mem_of_getElem? d0)).weights.up 1 (by rfl))) g0.flat) fun _ h0=>jOC 15 rfl<|cBn (bndOK b0.weights.l lo up) (fun p0=>jCO 4 rfl<|sAdd (j:Int) 1<|jOI 2 rfl<|⟨j+1,od,alB,(h0.dropAt 0 rfl),om,all_succ hF (map_at (f:=Tap.v) d0) (by simp only [Tap.v];rw [<-C0,<-D0];simp_all)⟩) fun p0=>jCR 11 rfl<|retT [I 11]<|(by have r0:=(h0.dropAt 0 rfl);have B0:=all_false_at (p:=fun t=>bndOK t.weights (runLo (spLo mx sh) (x.map Tap.v)) (runHi (spHi mx sh) (x.map Tap.v))) (map_at (f:=Tap.v) d0) (by simp only [Tap.v];rw [<-C0,<-D0];simp_all);exact ⟨by unfold accCode;rw [if_pos A0,if_neg (by rw [B0];decide)];rfl,r0⟩)))) fun l0=>?_
 refine jCO 7 rfl<|sIN hx i fun a0 _ _ c0 s0=>?_
 have z0:=(dx a0 (List.mem_of_getElem? c0)).weights.len;have y0:=(dx a0 (List.mem_of_getElem? c0)).weights.le
 refine sMA e0 (s0.up 0 rfl) 0 [I a0.first, .slice a0.weights.a a0.weights.n a0.weights.k]<|sAlloc e0 zeroValue121 fun _ _ t0=>pu1<|sTk t0 0 rfl [I a0.first, .slice a0.weights.a a0.weights.n a0.weights.k] fun _ i0=>gOO i0 7 [0] rfl<|cS (p7_bounds a0.weights.a a0.weights.n a0.weights.k a0.weights.l 0 mx (RdT.flat ((dx a0 (List.mem_of_getElem? c0)).weights.up 1 (by rfl))) i0.flat) fun _ j0=>jOC 16 rfl<|CBn (bndOK a0.weights.l 0 mx) (fun u0=>jCR 12 rfl<|retT [I 11]<|(by have v0:=(j0.dropAt 0 rfl);have A0:=all_false_at (p:=fun t=>bndOK t.weights 0 mx) (map_at (f:=Tap.v) c0) (by simp only [Tap.v];simp_all);exact ⟨by unfold accCode;rw [if_neg (by rw [A0];decide)];rfl,v0⟩)) fun u0=>jCO 7 rfl<|cS (p7_span (bndLo a0.weights.l 0 mx) (bndHi a0.weights.l 0 mx) sh j0.flat) fun _ k0=>jOC 14 rfl<|cE (i:Int) 0 (fun w0=>?_) (fun w0=>?_)
 rotate_left
 ·exact jCO 5 rfl<|stepY (I (min lo (shiftV (bndLo a0.weights.l 0 mx) sh))) rfl rfl (Y_min2 lo (shiftV (bndLo a0.weights.l 0 mx) sh) rfl rfl kr kr)<|pu2<|stepY (I (max up (shiftV (bndHi a0.weights.l 0 mx) sh))) rfl rfl (Y_max2 up (shiftV (bndHi a0.weights.l 0 mx) sh) rfl rfl kr kr)<|jOO 6 rfl<|sAdd (i:Int) 1<|jOI 2 rfl<|⟨(i+1,(min lo (shiftV (bndLo a0.weights.l 0 mx) sh)),(max up (shiftV (bndHi a0.weights.l 0 mx) sh))),od,alB,(k0.dropAt 0 rfl),om,by
    have e1:=runLo_at (spLo mx sh) (map_at (f:=Tap.v) c0) om;have e2:=runHi_at (spHi mx sh) (map_at (f:=Tap.v) c0) om
    exact ⟨by rw [e1,<-hr.1];rfl,by rw [e2,<-hr.2];rfl⟩,all_succ hE (map_at (f:=Tap.v) c0) (by simp only [Tap.v];simp_all)⟩
 exact jCO 10 rfl<|stepY (I (min (shiftV (bndLo a0.weights.l 0 mx) sh) (shiftV (bndLo a0.weights.l 0 mx) sh))) rfl rfl (Y_min2 (shiftV (bndLo a0.weights.l 0 mx) sh) (shiftV (bndLo a0.weights.l 0 mx) sh) rfl rfl kr kr)<|pu2<|stepY (I (max (shiftV (bndHi a0.weights.l 0 mx) sh) (shiftV (bndHi a0.weights.l 0 mx) sh))) rfl rfl (Y_max2 (shiftV (bndHi a0.weights.l 0 mx) sh) (shiftV (bndHi a0.weights.l 0 mx) sh) rfl rfl kr kr)<|jOO 6 rfl<|sAdd (i:Int) 1<|jOI 2 rfl<|⟨(i+1,(min (shiftV (bndLo a0.weights.l 0 mx) sh) (shiftV (bndLo a0.weights.l 0 mx) sh)),(max (shiftV (bndHi a0.weights.l 0 mx) sh) (shiftV (bndHi a0.weights.l 0 mx) sh))),od,alB,(k0.dropAt 0 rfl),om,by
   have E0:i=0:=by omega
   subst E0
   have e1:=runLo_one (spLo mx sh) (map_at (f:=Tap.v) c0);have e2:=runHi_one (spHi mx sh) (map_at (f:=Tap.v) c0)
   rw [e1,e2];simp only [spLo,spHi,Tap.v];omega,all_succ hE (map_at (f:=Tap.v) c0) (by simp only [Tap.v];simp_all)⟩
theorem p11_check (s:Shape) (ax:Option Addr) (nx kx:Nat) (x:List Tap) (ay:Option Addr) (ny ky:Nat) (y:List Tap) (sh:Int) (sh2:Int) (out:Int) (hx:RdT encTap 2 [H] ax nx kx x) (dx:∀z∈x,Tap.Ok [H] z) (hy:RdT encTap 2 [H] ay ny ky y) (dy:∀z∈y,Tap.Ok [H] z) (hS:Sat W w (H::F)):
  Ro prog 132 #[.agg #[I s.w,I s.h,I s.max_], .slice ax nx kx, .slice ay ny ky,I sh,I sh2,I out] (I (resCode s.w s.h s.max_ (x.map Tap.v) (y.map Tap.v) sh sh2 out)) W w (H::F):=by
 have B0:=hx.le;have z0:=hx.len
 have C0:=hy.le;have A0:=hy.len
 refine callsK 77 func132 rfl<|jCO 2 rfl<|sBx hS [I s.w,I s.h,I s.max_] fun _ _ j0=>gOO j0 9 [0] rfl<|cS (p8_valid ax nx kx x s.w (hx.fl 1) (fun z hz=>(dx z hz).of_mem (mF 1)) j0.flat) fun _ g0=>jOC 9 rfl<|CN (tapsCode (x.map Tap.v) s.w) 0 (fun b0=>jCR 8 rfl<|retT [I (tapsCode (x.map Tap.v) s.w)]<|(by have l0:=(g0.dropAt 0 rfl);have hk:resCode s.w s.h s.max_ (x.map Tap.v) (y.map Tap.v) sh sh2 out=(tapsCode (x.map Tap.v) s.w):=(by unfold resCode;rw [if_neg b0]);exact ⟨by rw [hk];rfl,l0⟩)) fun b0=>gCO g0 8 [0] rfl<|cS (p8_valid ay ny ky y s.h (hy.fl 1) (fun z hz=>(dy z hz).of_mem (mF 1)) g0.flat) fun _ k0=>jOC 9 rfl<|CN (tapsCode (y.map Tap.v) s.h) 0 (fun c0=>jCR 8 rfl<|retT [I (tapsCode (y.map Tap.v) s.h)]<|(by have m0:=(k0.dropAt 0 rfl);have hk:resCode s.w s.h s.max_ (x.map Tap.v) (y.map Tap.v) sh sh2 out=(tapsCode (y.map Tap.v) s.h):=(by unfold resCode;rw [if_pos b0,if_neg c0]);exact ⟨by rw [hk];rfl,m0⟩)) fun c0=>jCC 4 rfl ?_
 have F0:=tapsCode_len (l:=x.map Tap.v) (n:=s.w) om;have G0:=tapsCode_len (l:=y.map Tap.v) (n:=s.h) om
 have D0:(x.map Tap.v).length=nx:=by simp [z0]
 have E0:(y.map Tap.v).length=ny:=by simp [A0]
 have y0:mulOK (nx:Int) (ny:Int) 4096=true↔(((x.map Tap.v).length:Nat):Int)*(((y.map Tap.v).length:Nat):Int)<=4096:=by rw [D0,E0];unfold mulOK;rw [decide_eq_true_eq];omega
 refine jCO 5 rfl<|cS (p1_mul (nx:Int) (ny:Int) 4096 (od) k0.flat) fun _ d0=>jOC 13 rfl<|CBn (mulOK (nx:Int) (ny:Int) 4096) (fun e0=>jCR 7 rfl<|retT [I 8]<|(by have n0:=(d0.dropAt 0 rfl);have hk:resCode s.w s.h s.max_ (x.map Tap.v) (y.map Tap.v) sh sh2 out=8:=(by unfold resCode;rw [if_pos b0,if_pos c0,if_neg (fun h=>e0 (y0.2 h))]);exact ⟨by rw [hk];rfl,n0⟩)) fun e0=>jCC 3 rfl<|cutF d0 0 [1,2,3,5,6] (γ:=Unit) (fun _ R=>⟨[(54, .bool (decide (¬((0<=sh/\sh<=24)/\0<=sh2/\sh2<=24))))],R,0,True⟩) ?_ ?_
 ·exact jCO 4 rfl<|sD 43 (sh<0) (fun o0=>jOI 12 rfl<|⟨(),⟨⟨(mT om),trivial⟩,sA⟩,d0,trivial⟩) fun o0=>pu4<|sD 47 (sh>24) (fun p0=>jOI 8 rfl<|⟨(),⟨⟨(mT om),trivial⟩,sA⟩,d0,trivial⟩) fun p0=>pu4<|sD 51 (sh2<0) (fun q0=>jOI 4 rfl<|⟨(),⟨⟨(mT om),trivial⟩,sA⟩,d0,trivial⟩) fun q0=>jOI 4 rfl<|⟨(),⟨⟨(mB (decide (sh2>24)) bm),trivial⟩,sA⟩,d0,trivial⟩
 rintro _ ρ _ ⟨a0,_⟩
 refine cD (¬((0<=sh/\sh<=24)/\0<=sh2/\sh2<=24)) (fun f0=>jCR 7 rfl<|retT [I 10]<|(by have r0:=(a0.dropAt 0 rfl);have hk:resCode s.w s.h s.max_ (x.map Tap.v) (y.map Tap.v) sh sh2 out=10:=(by unfold resCode;rw [if_pos b0,if_pos c0,if_pos (y0.1 e0),if_neg f0]);exact ⟨by rw [hk];rfl,r0⟩)) fun f0=>jCC 3 rfl<|cutF a0 0 [1,2,3,6] (γ:=Unit) (fun _ R=>⟨[(70, .bool (decide (¬((1<=s.max_/\s.max_<=4294967296)/\1<=out/\out<=4294967296))))],R,0,True⟩) ?_ ?_
 rotate_left
 · exact (by rintro _ ρ _ ⟨h0,_⟩;refine cD (¬((1<=s.max_/\s.max_<=4294967296)/\1<=out/\out<=4294967296)) (fun i0=>jCR 7 rfl<|retT [I 2]<|(by have s0:=(h0.dropAt 0 rfl);have hk:resCode s.w s.h s.max_ (x.map Tap.v) (y.map Tap.v) sh sh2 out=2:=(by unfold resCode;rw [if_pos b0,if_pos c0,if_pos (y0.1 e0),if_pos (Classical.not_not.1 f0),if_neg i0]);exact ⟨by rw [hk];rfl,s0⟩)) fun i0=>gCO h0 9 [0] rfl<|cS (p11_acc ax nx kx x ay ny ky y s.max_ sh (hx.fl 1) (fun z hz=>(dx z hz).of_mem (mF 1)) (hy.fl 1) (fun z hz=>(dy z hz).of_mem (mF 1)) h0.flat) fun _ t0=>jOR 4 rfl<|retT [I (accCode (x.map Tap.v) (y.map Tap.v) s.max_ sh)] ?_;have u0:=(t0.dropAt 0 rfl);have hk:resCode s.w s.h s.max_ (x.map Tap.v) (y.map Tap.v) sh sh2 out=(accCode (x.map Tap.v) (y.map Tap.v) s.max_ sh):=(by unfold resCode;rw [if_pos b0,if_pos c0,if_pos (y0.1 e0),if_pos (Classical.not_not.1 f0),if_pos (Classical.not_not.1 i0)];rfl);exact ⟨by rw [hk];rfl,u0⟩)
 exact gCO a0 5 [0] rfl<|sD 58 (s.max_<1) (fun v0=>jOI 13 rfl<|⟨(),⟨⟨(mT om),trivial⟩,sA⟩,a0,trivial⟩) fun v0=>gOO a0 5 [0] rfl<|sD 63 (s.max_>4294967296) (fun w0=>jOI 8 rfl<|⟨(),⟨⟨(mT om),trivial⟩,sA⟩,a0,trivial⟩) fun w0=>pu4<|sD 67 (out<1) (fun x0=>jOI 4 rfl<|⟨(),⟨⟨(mT om),trivial⟩,sA⟩,a0,trivial⟩) fun x0=>jOI 4 rfl<|⟨(),⟨⟨(mB (decide (out>4294967296)) bm),trivial⟩,sA⟩,a0,trivial⟩
def intCode (w h m:Int):Int:=if mostOK w h m=true then 0 else 11
theorem most_eq {w h m:Int} (h1:1<=w/\1<=h/\1<=m) (h2:mulOK w h 4294967296=true):mostOK w h m=mulOK (mulV w h 4294967296) m 4294967296/\mostV w h m=mulV (mulV w h 4294967296) m 4294967296:=by
  have hx:=of_decide_eq_true h2
  have hp:=Int.mul_pos (a:=w) (b:=h) (by omega) (by omega)
  have e0:mulV w h 4294967296=w*h:=by unfold mulV;rw [if_pos h2]
  rw [e0]
  have e:mostOK w h m=mulOK (w*h) m 4294967296:=by unfold mostOK mulOK;exact decide_eq_decide.2 (by omega)
  exact ⟨e,by unfold mostV mulV;rw [e]⟩
theorem most_no {w h m:Int} (h1:¬(1<=w/\1<=h/\1<=m)\/¬mulOK w h 4294967296=true):mostOK w h m=false/\mostV w h m=0:=by
  apply most_f
  intro hx
  rcases h1 with h1|h1
  · omega
  · exact h1 (decide_eq_true (by omega))
theorem p13_most (s:Shape) (hS:Sat W w (H::F)):
  Ro prog 186 #[.agg #[I s.w,I s.h,I s.max_]] (.tuple #[I (mostV s.w s.h s.max_), .bool (mostOK s.w s.h s.max_)]) W w (H::F):=by
 refine callsK 35 func186 rfl<|jCO 2 rfl<|sBx hS [I s.w,I s.h,I s.max_] fun _ _ a0=>gOO a0 11 [0] rfl<|sD 9 (s.w<1) (fun d0=>jOR 20 rfl<|retT [I 0, .bool false]<|(by have e0:=(a0.dropAt 0 rfl);obtain ⟨e1,e2⟩:=most_no (w:=s.w) (h:=s.h) (m:=s.max_) (.inl om);exact ⟨by rw [e1,e2];rfl,e0⟩)) fun d0=>gOO a0 5 [0] rfl<|sD 14 (s.h<1) (fun f0=>jOR 15 rfl<|retT [I 0, .bool false]<|(by have g0:=(a0.dropAt 0 rfl);obtain ⟨e1,e2⟩:=most_no (w:=s.w) (h:=s.h) (m:=s.max_) (.inl om);exact ⟨by rw [e1,e2];rfl,g0⟩)) fun f0=>gOC a0 6 [0] rfl<|cD (s.max_<1) (fun h0=>jCR 8 rfl<|retT [I 0, .bool false]<|(by have i0:=(a0.dropAt 0 rfl);obtain ⟨e1,e2⟩:=most_no (w:=s.w) (h:=s.h) (m:=s.max_) (.inl om);exact ⟨by rw [e1,e2];rfl,i0⟩)) fun h0=>gCO a0 8 [0,0] rfl<|cS (p1_mul s.w s.h 4294967296 (od) a0.flat) fun _ b0=>jOC 14 rfl<|CBn (mulOK s.w s.h 4294967296) (fun c0=>jCR 8 rfl<|retT [I 0, .bool false]<|(by have j0:=(b0.dropAt 0 rfl);obtain ⟨e1,e2⟩:=most_no (w:=s.w) (h:=s.h) (m:=s.max_) (.inr c0);exact ⟨by rw [e1,e2];rfl,j0⟩)) fun c0=>gCO b0 7 [0] rfl<|cS (p1_mul (mulV s.w s.h 4294967296) s.max_ 4294967296 (od) b0.flat) fun _ k0=>jOR 7 rfl<|retT [I (mulV (mulV s.w s.h 4294967296) s.max_ 4294967296), .bool (mulOK (mulV s.w s.h 4294967296) s.max_ 4294967296)] ?_
 have l0:=(k0.dropAt 0 rfl)
 obtain ⟨e1,e2⟩:=most_eq (w:=s.w) (h:=s.h) (m:=s.max_) om c0
 exact ⟨by rw [e1,e2];rfl,l0⟩
theorem p13_check (s:Shape) (hS:Sat W w (H::F)):
  Ro prog 157 #[.agg #[I s.w,I s.h,I s.max_]] (I (intCode s.w s.h s.max_)) W w (H::F):=by
 exact callsK 12 func157 rfl<|jCO 2 rfl<|sBx hS [I s.w,I s.h,I s.max_] fun _ _ a0=>gOO a0 7 [300] rfl<|cS (p13_most s a0.flat) fun _ b0=>jOC 13 rfl<|CBn (mostOK s.w s.h s.max_) (fun c0=>jCR 7 rfl<|retT [I 11]<|⟨(by unfold intCode;exact ssp),(b0.dropAt 0 rfl)⟩) fun c0=>jCR 8 rfl<|retT [I 0]<|⟨(by unfold intCode;exact ssp),(b0.dropAt 0 rfl)⟩
end Go.Proofs.YtghcddbhllkbmaaGreat

namespace Go.Proofs.YtghcddbhllkbmaaGreat
open Go Go.E Go.Proofs.Tryz
set_option linter.all false
set_option maxRecDepth 100000
set_option maxHeartbeats 2000000
variable {W w:World} {H:Chunk} {F:List Chunk}
def sumN (f:Nat->Int) (n:Nat):Int:=((List.range n).map f).sum
theorem sumN_zero (f:Nat->Int):sumN f 0=0:=rfl
theorem sumN_succ (f:Nat->Int) (n:Nat):sumN f (n+1)=sumN f n+f n:=by unfold sumN;rw [List.range_succ,List.map_append,List.sum_append];simp
theorem sumN_congr {f g:Nat->Int}:∀n:Nat,(∀k,k<n->f k=g k)->sumN f n=sumN g n
  |0,_=>rfl
  |n+1,h=>by rw [sumN_succ,sumN_succ,sumN_congr n (fun k hk=>h k (by omega)),h n (by omega)]
theorem sumN_le {f g:Nat->Int}:∀n:Nat,(∀k,k<n->f k<=g k)->sumN f n<=sumN g n
  |0,_=>Int.le_refl _
  |n+1,h=>by rw [sumN_succ,sumN_succ];exact Int.add_le_add (sumN_le n (fun k hk=>h k (by omega))) (h n (by omega))
theorem sumN_bd {f:Nat->Int} {B:Int}:∀n:Nat,(∀k,k<n->-B<=f k/\f k<=B)->-(B*n)<=sumN f n/\sumN f n<=B*n
  |0,_=>by simp [sumN]
  |n+1,h=>by
    have ih:=sumN_bd n (fun k hk=>h k (by omega));have hn:=h n (by omega)
    rw [sumN_succ,show B*((n+1:Nat):Int)=B*n+B by push_cast;rw [Int.mul_add,Int.mul_one]]
    omega
theorem sumN_list {l:List Int} (f:Int->Int) (h0:f 0=0):∀n:Nat,n<=l.length->sumN (fun k=>f (l.getD k 0)) n=((l.take n).map f).sum
  |0,_=>by simp [sumN]
  |n+1,h=>by
    have hn:l[n]?=some (l[n]'(by omega)):=List.getElem?_eq_getElem (by omega)
    rw [sumN_succ,sumN_list f h0 n (by omega),sum_at hn,List.getD_eq_getElem?_getD,hn];rfl
def gridN (w:Int) (f:Int->Int->Int) (n:Nat):List Int:=(List.range n).map fun (k:Nat)=>f ((k:Int)%w) ((k:Int)/w)
theorem grid_len (w:Int) (f:Int->Int->Int) (n:Nat):(gridN w f n).length=n:=by simp [gridN]
theorem grid_succ {w:Nat} {f:Int->Int->Int} {i j:Nat} (hj:j<w):gridN w f (i*w+j+1)=gridN w f (i*w+j)++[f j i]:=by
  have h:=grid_ix (nx:=(w:Int)) (i:=(i:Int)) (j:=(j:Int)) (by omega)
  unfold gridN
  rw [List.range_succ,List.map_append]
  simp only [List.map_cons,List.map_nil]
  rw [show (((i*w+j:Nat):Int))=(i:Int)*(w:Int)+(j:Int) by push_cast;rfl,h.1,h.2]
theorem grid_at {w:Int} {f:Int->Int->Int} {n k:Nat} (h:k<n):(gridN w f n)[k]?=some (f ((k:Int)%w) ((k:Int)/w)):=by
  unfold gridN;rw [List.getElem?_map,List.getElem?_range h];rfl
theorem grid_congr {w:Int} {f g:Int->Int->Int} {n:Nat} (h:∀k:Nat,k<n->f ((k:Int)%w) ((k:Int)/w)=g ((k:Int)%w) ((k:Int)/w)):gridN w f n=gridN w g n:=by
  unfold gridN;exact List.map_congr_left (fun k hk=>h k (List.mem_range.1 hk))
theorem fill_set {l:List Int} {n m:Nat} {v:Int} (h:l.length=n) (hm:n<m):(l++List.replicate (m-n) 0).set n v=(l++[v])++List.replicate (m-(n+1)) 0:=by
  subst h
  obtain ⟨k,rfl⟩:∃k,m=l.length+1+k:=⟨m-l.length-1,by omega⟩
  rw [show l.length+1+k-l.length=k+1 by omega,show l.length+1+k-(l.length+1)=k by omega,List.set_append_right _ _ (Nat.le_refl _),Nat.sub_self,List.replicate_succ,List.set_cons_zero,List.append_assoc];rfl
def edgeV (pol fill mx:Int):Prop:=(pol=3/\0<=fill/\fill<=mx)\/(0<=pol/\pol<3/\fill=0)
instance (a b c:Int):Decidable (edgeV a b c):=by unfold edgeV;infer_instance
def pixV (p:PlaneV) (pol fill x y:Int):Int:=match idxV x p.w pol,idxV y p.h pol with
  |some i,some j=>p.pix.getD (j*p.w+i).toNat 0
  |_,_=>fill
def clampV (v m:Int):Int:=if v<0\/m<0 then 0 else if m<v then m else v
theorem plane_sz {p:PlaneV} (h:planeOK p=true):sizeP p.w p.h p.max_/\(p.pix.length:Int)=p.w*p.h/\∀z∈p.pix,0<=z/\z<=p.max_:=by
  unfold planeOK pixOK at h
  simp only [Bool.and_eq_true,decide_eq_true_eq,List.all_eq_true] at h
  exact ⟨h.1.1,h.1.2,h.2⟩
theorem getD_bd {l:List Int} {m:Int} (h0:0<=m) (h:∀z∈l,0<=z/\z<=m) (k:Nat):0<=l.getD k 0/\l.getD k 0<=m:=by
  rw [List.getD_eq_getElem?_getD]
  cases e:l[k]? with
  |none=>exact ⟨Int.le_refl _,h0⟩
  |some z=>exact h z (List.mem_of_getElem? e)
theorem pix_bd {p:PlaneV} {pol fill x y:Int} (h:planeOK p=true) (he:edgeV pol fill p.max_):0<=pixV p pol fill x y/\pixV p pol fill x y<=p.max_:=by
  obtain ⟨hs,hl,hp⟩:=plane_sz h
  unfold sizeP at hs
  have hf:0<=fill/\fill<=p.max_:=by unfold edgeV at he;omega
  unfold pixV
  split
  · exact getD_bd (by omega) hp _
  · exact hf
theorem pix_mx {p:PlaneV} (h:planeOK p=true):1<=p.max_/\p.max_<=4294967296:=by have:=(plane_sz h).1;unfold sizeP at this;omega
theorem idx_in {i n p:Int} (hn:1<=n/\n<=128) (hp:0<=p/\p<=3) (hi:0<=i/\i<n):idxV i n p=some i:=by
  have e1:i%(2*n)=i:=Int.emod_eq_of_lt hi.1 (by omega)
  have e2:i%n=i:=Int.emod_eq_of_lt hi.1 hi.2
  unfold idxV
  rw [if_pos hn,e1,e2]
  split
  · congr 1;omega
  · split
    · rw [if_neg (by omega)]
    · split
      · rfl
      · rw [if_pos (by omega)]
theorem pix_in {p:PlaneV} {pol fill x y:Int} (h:planeOK p=true) (he:edgeV pol fill p.max_) (hx:0<=x/\x<p.w) (hy:0<=y/\y<p.h):pixV p pol fill x y=p.pix.getD (y*p.w+x).toNat 0:=by
  have hs:=(plane_sz h).1
  unfold sizeP at hs
  unfold pixV
  rw [idx_in ⟨hs.1,hs.2.1⟩ (by unfold edgeV at he;omega) hx,idx_in (by omega) (by unfold edgeV at he;omega) hy]
theorem wmul_bd {w v B:Int} (hw:-32767<=w/\w<=32767) (hv:-B<=v/\v<=B) (hB:0<=B):-(32767*B)<=w*v/\w*v<=32767*B:=by
  have h:=Int.natAbs_mul w v
  have h1:(w*v).natAbs<=32767*B.toNat:=(by rw [h];exact Nat.mul_le_mul (by omega) (by omega))
  omega
theorem wmul_between {w v lo hi:Int} (h1:lo<=v) (h2:v<=hi):min (w*lo) (w*hi)<=w*v/\w*v<=max (w*lo) (w*hi):=by
  rcases Int.le_total 0 w with hw|hw
  · have a:=Int.mul_le_mul_of_nonneg_left h1 hw;have b:=Int.mul_le_mul_of_nonneg_left h2 hw;omega
  · have a:=Int.mul_le_mul_of_nonpos_left hw h1;have b:=Int.mul_le_mul_of_nonpos_left hw h2;omega
theorem areW_get {l:List Int} (h:areW l=true) (k:Nat):-32767<=l.getD k 0/\l.getD k 0<=32767:=by
  rw [List.getD_eq_getElem?_getD]
  cases e:l[k]? with
  |none=>exact ⟨by decide,by decide⟩
  |some z=>exact areW_at h e
theorem sumW_between {l:List Int} {f:Nat->Int} {lo hi:Int} (h:∀k,k<l.length->lo<=f k/\f k<=hi):sumLo l lo hi<=sumN (fun k=>l.getD k 0*f k) l.length/\sumN (fun k=>l.getD k 0*f k) l.length<=sumHi l lo hi:=by
  have e1:=sumN_list (l:=l) (fun w=>min (w*lo) (w*hi)) (by simp) l.length (Nat.le_refl _)
  have e2:=sumN_list (l:=l) (fun w=>max (w*lo) (w*hi)) (by simp) l.length (Nat.le_refl _)
  rw [List.take_of_length_le (Nat.le_refl _)] at e1 e2
  unfold sumLo sumHi
  rw [<-e1,<-e2]
  exact ⟨sumN_le _ (fun k hk=>(wmul_between (h k hk).1 (h k hk).2).1),sumN_le _ (fun k hk=>(wmul_between (h k hk).1 (h k hk).2).2)⟩
theorem shift_mono {a b s:Int} (h:a<=b) (ha:accP a) (hb:accP b):shiftV a s<=shiftV b s:=by
  by_cases hs:0<=s/\s<=24
  · have e:∀z,accP z->shiftV z s=if s=0 then z else (z+2^(s-1).toNat)/2^s.toNat:=fun z hz=>if_pos ⟨hz,hs⟩
    rw [e a ha,e b hb]
    split
    · exact h
    · exact Int.ediv_le_ediv (Int.pow_pos (by decide:(0:Int)<2)) (by omega)
  · exact (by have e:∀z,shiftV z s=0:=fun z=>if_neg (fun h=>hs h.2);rw [e a,e b];exact Int.le_refl _)
theorem bnd_t {l:List Int} {lo hi:Int} (h:bndOK l lo hi=true):wCode l=0/\lo<=hi/\-68719476736<=lo/\hi<=68719476736/\accP (sumLo l lo hi)/\accP (sumHi l lo hi)/\bndLo l lo hi=sumLo l lo hi/\bndHi l lo hi=sumHi l lo hi:=by
  have h1:=of_decide_eq_true h
  exact ⟨h1.1,h1.2.1,h1.2.2.1,h1.2.2.2.1,h1.2.2.2.2.1,h1.2.2.2.2.2,by unfold bndLo;rw [if_pos h],by unfold bndHi;rw [if_pos h]⟩
theorem bnd_sum {l:List Int} {f:Nat->Int} {lo hi s:Int} (h:bndOK l lo hi=true) (hf:∀k,k<l.length->lo<=f k/\f k<=hi):
    accP (sumN (fun k=>l.getD k 0*f k) l.length)/\shiftV (bndLo l lo hi) s<=shiftV (sumN (fun k=>l.getD k 0*f k) l.length) s/\shiftV (sumN (fun k=>l.getD k 0*f k) l.length) s<=shiftV (bndHi l lo hi) s:=by
  obtain ⟨_,_,_,_,h5,h6,h7,h8⟩:=bnd_t h
  have hb:=sumW_between hf
  have ha:accP (sumN (fun k=>l.getD k 0*f k) l.length):=by unfold accP at*;omega
  rw [h7,h8]
  exact ⟨ha,shift_mono hb.1 h5 ha,shift_mono hb.2 ha h6⟩
theorem part_bd {l:List Int} {f:Nat->Int} {lo hi:Int} {n:Nat} (h:bndOK l lo hi=true) (hf:∀k,k<l.length->lo<=f k/\f k<=hi) (hn:n<=l.length):
    -200000000000000000<=sumN (fun k=>l.getD k 0*f k) n/\sumN (fun k=>l.getD k 0*f k) n<=200000000000000000:=by
  obtain ⟨h1,h2,h3,h4,_⟩:=bnd_t h
  obtain ⟨a0,hl,hw⟩:=wCode_len h1
  have hb:=sumN_bd (f:=fun k=>l.getD k 0*f k) (B:=32767*68719476736) n (fun k hk=>wmul_bd (areW_get hw k) (B:=68719476736) (by have:=hf k (by omega);omega) (by decide))
  omega
def zPl:PlaneV:=⟨0,0,0,[]⟩
def rIn (r:Rct) (w h:Int):Prop:=(0<=r.x0/\r.x0<r.x1/\r.x1<=w)/\0<=r.y0/\r.y0<r.y1/\r.y1<=h
instance (r:Rct) (w h:Int):Decidable (rIn r w h):=by unfold rIn;infer_instance
def areaN (r:Rct):Nat:=((r.x1-r.x0)*(r.y1-r.y0)).toNat
def mkPl (r:Rct) (mx:Int) (f:Int->Int->Int):PlaneV:=⟨r.x1-r.x0,r.y1-r.y0,mx,gridN (r.x1-r.x0) (fun i j=>f (r.x0+i) (r.y0+j)) (areaN r)⟩
def okT (c:Int) (p:PlaneV):PlaneV×Int:=if c=0 then (p,0) else (zPl,c)
theorem okT_0 {c:Int} {p:PlaneV} (h:c=0):okT c p=(p,0):=if_pos h
theorem okT_n {c:Int} {p:PlaneV} (h:¬c=0):okT c p=(zPl,c):=if_neg h
def edgC (p:PlaneV) (pol fill c w h:Int) (r:Rct):Int:=if planeOK p=true/\edgeV pol fill p.max_ then (if c=0 then (if rIn r w h then 0 else 8) else c) else 1
def convF (p:PlaneV) (pol fill kw kh x y:Int) (k:Nat):Int:=pixV p pol fill (x+(k:Int)%kw-kw/2) (y+(k:Int)/kw-kh/2)
def convS (p:PlaneV) (pol fill kw kh:Int) (ws:List Int) (x y:Int) (n:Nat):Int:=sumN (fun k=>ws.getD k 0*convF p pol fill kw kh x y k) n
def convX (p:PlaneV) (pol fill kw kh:Int) (ws:List Int) (sh out x y:Int):Int:=clampV (shiftV (convS p pol fill kw kh ws x y ws.length) sh) out
def convT (p:PlaneV) (pol fill kw kh:Int) (ws:List Int) (sh out:Int) (r:Rct):PlaneV×Int:=
  okT (edgC p pol fill (convCode p.max_ kw kh ws sh out) p.w p.h r) (mkPl r out (convX p pol fill kw kh ws sh out))
def midF (p:PlaneV) (pol fill:Int) (row:List Int) (x y:Int) (k:Nat):Int:=pixV p pol fill (x+(k:Int)-(row.length:Int)/2) y
def midS (p:PlaneV) (pol fill:Int) (row:List Int) (x y:Int) (n:Nat):Int:=sumN (fun k=>row.getD k 0*midF p pol fill row x y k) n
def midV (p:PlaneV) (pol fill:Int) (row:List Int) (sh x y:Int):Int:=shiftV (midS p pol fill row x y row.length) sh
def sepS (p:PlaneV) (pol fill:Int) (row col:List Int) (sh x y:Int) (n:Nat):Int:=sumN (fun j=>col.getD j 0*midV p pol fill row sh x (y+(j:Int)-(col.length:Int)/2)) n
def sepX (p:PlaneV) (pol fill:Int) (row col:List Int) (sh sh2 out x y:Int):Int:=clampV (shiftV (sepS p pol fill row col sh x y col.length) sh2) out
def sepT (p:PlaneV) (pol fill:Int) (row col:List Int) (sh sh2 out:Int) (r:Rct):PlaneV×Int:=
  okT (edgC p pol fill (sepCode p.max_ row col sh sh2 out) p.w p.h r) (mkPl r out (sepX p pol fill row col sh sh2 out))
def tapAt (l:List TapV) (i:Int):TapV:=l[i.toNat]?.getD ⟨0,[]⟩
def tapS (p:PlaneV) (pol fill:Int) (t:TapV) (k:Int) (n:Nat):Int:=sumN (fun i=>t.weights.getD i 0*pixV p pol fill (t.first+(i:Int)) k) n
def tapV (p:PlaneV) (pol fill:Int) (t:TapV) (sh k:Int):Int:=shiftV (tapS p pol fill t k t.weights.length) sh
def resS (p:PlaneV) (pol fill:Int) (s t:TapV) (sh:Int) (n:Nat):Int:=sumN (fun j=>t.weights.getD j 0*tapV p pol fill s sh (t.first+(j:Int))) n
def resX (p:PlaneV) (pol fill:Int) (x y:List TapV) (sh sh2 out u v:Int):Int:=clampV (shiftV (resS p pol fill (tapAt x u) (tapAt y v) sh (tapAt y v).weights.length) sh2) out
def resT (p:PlaneV) (pol fill:Int) (x y:List TapV) (sh sh2 out:Int) (r:Rct):PlaneV×Int:=
  okT (edgC p pol fill (resCode p.w p.h p.max_ x y sh sh2 out) x.length y.length r) (mkPl r out (resX p pol fill x y sh sh2 out))
theorem conv_ok {mx kw kh:Int} {ws:List Int} {sh out:Int} (h:convCode mx kw kh ws sh out=0):
    (1<=kw/\kw<=9)/\(1<=kh/\kh<=9)/\(ws.length:Int)=kw*kh/\(0<=sh/\sh<=24)/\(1<=out/\out<=4294967296)/\bndOK ws 0 mx=true:=by
  unfold convCode at h
  split at h
  · rename_i h1
    split at h
    · rename_i h2
      split at h
      · rename_i h3
        split at h
        · rename_i h4;exact ⟨h1.1,h1.2.1,h1.2.2,h2.2,h3.2,h4⟩
        · omega
      · omega
    · omega
  · omega
theorem sep_ok {mx:Int} {row col:List Int} {sh sh2 out:Int} (h:sepCode mx row col sh sh2 out=0):
  ((1<=row.length/\row.length<=9)/\1<=col.length/\col.length<=9)/\((0<=sh/\sh<=24)/\0<=sh2/\sh2<=24)/\(1<=out/\out<=4294967296)/\bndOK row 0 mx=true/\bndOK col (shiftV (bndLo row 0 mx) sh) (shiftV (bndHi row 0 mx) sh)=true:=by
 unfold sepCode at h
 split at h
 ·rename_i h1
  split at h
  ·rename_i h2
   split at h
   ·rename_i h3
    split at h
    ·rename_i h4
     split at h
     ·rename_i h5;exact ⟨om,h2.2.2,h3.2,h4,h5⟩
     ·omega
    ·omega
   ·omega
  ·omega
 ·omega
theorem res_ok {w h mx:Int} {x y:List TapV} {s s2 out:Int} (e:resCode w h mx x y s s2 out=0):
  tapsCode x w=0/\tapsCode y h=0/\(x.length:Int)*(y.length:Int)<=4096/\((0<=s/\s<=24)/\0<=s2/\s2<=24)/\(1<=out/\out<=4294967296)/\x.all (fun t=>bndOK t.weights 0 mx)=true/\y.all (fun t=>bndOK t.weights (runLo (spLo mx s) x) (runHi (spHi mx s) x))=true:=by
 unfold resCode at e
 split at e
 ·rename_i h1
  split at e
  ·rename_i h2
   split at e
   ·rename_i h3
    split at e
    ·rename_i h4
     split at e
     ·rename_i h5
      split at e
      ·rename_i h6
       split at e
       ·rename_i h7;exact ⟨h1,h2,h3,h4,h5.2,h6,h7⟩
       ·omega
      ·omega
     ·omega
    ·omega
   ·omega
  ·omega
 ·omega
theorem foldl_min {f:TapV->Int}:∀(l:List TapV) (m:Int),l.foldl (fun m t=>min m (f t)) m<=m/\∀t∈l,l.foldl (fun m t=>min m (f t)) m<=f t
  |[],m=>⟨Int.le_refl _,fun t h=>by cases h⟩
  |a::l,m=>by
    have ih:=foldl_min (f:=f) l (min m (f a))
    rw [List.foldl_cons]
    refine ⟨by omega,fun t ht=>?_⟩
    rcases List.mem_cons.1 ht with rfl|ht
    · omega
    · exact ih.2 t ht
theorem foldl_max {f:TapV->Int}:∀(l:List TapV) (m:Int),m<=l.foldl (fun m t=>max m (f t)) m/\∀t∈l,f t<=l.foldl (fun m t=>max m (f t)) m
  |[],m=>⟨Int.le_refl _,fun t h=>by cases h⟩
  |a::l,m=>by
    have ih:=foldl_max (f:=f) l (max m (f a))
    rw [List.foldl_cons]
    refine ⟨by omega,fun t ht=>?_⟩
    rcases List.mem_cons.1 ht with rfl|ht
    · omega
    · exact ih.2 t ht
theorem runLo_le {f:TapV->Int} {l:List TapV} {t:TapV} (h:t∈l):runLo f l<=f t:=by
  cases l with
  |nil=>cases h
  |cons a l=>
    have:=foldl_min (f:=f) l (f a)
    unfold runLo
    rcases List.mem_cons.1 h with rfl|h
    · exact this.1
    · exact this.2 t h
theorem runHi_le {f:TapV->Int} {l:List TapV} {t:TapV} (h:t∈l):f t<=runHi f l:=by
  cases l with
  |nil=>cases h
  |cons a l=>
    have:=foldl_max (f:=f) l (f a)
    unfold runHi
    rcases List.mem_cons.1 h with rfl|h
    · exact this.1
    · exact this.2 t h
section
variable {p:PlaneV} {pol fill:Int} (hp:planeOK p=true) (he:edgeV pol fill p.max_)
include hp he
theorem conv_part {kw kh sh out x y:Int} {ws:List Int} (h:convCode p.max_ kw kh ws sh out=0) {n:Nat} (hn:n<=ws.length):-200000000000000000<=convS p pol fill kw kh ws x y n/\convS p pol fill kw kh ws x y n<=200000000000000000:=
  part_bd (conv_ok h).2.2.2.2.2 (fun k _=>pix_bd hp he) hn
theorem mid_part {sh sh2 out x y:Int} {row col:List Int} (h:sepCode p.max_ row col sh sh2 out=0) {n:Nat} (hn:n<=row.length):-200000000000000000<=midS p pol fill row x y n/\midS p pol fill row x y n<=200000000000000000:=
  part_bd (sep_ok h).2.2.2.1 (fun k _=>pix_bd hp he) hn
theorem mid_acc {sh sh2 out x y:Int} {row col:List Int} (h:sepCode p.max_ row col sh sh2 out=0):accP (midS p pol fill row x y row.length)/\shiftV (bndLo row 0 p.max_) sh<=midV p pol fill row sh x y/\midV p pol fill row sh x y<=shiftV (bndHi row 0 p.max_) sh:=
  bnd_sum (sep_ok h).2.2.2.1 (fun k _=>pix_bd hp he)
theorem sep_part {sh sh2 out x y:Int} {row col:List Int} (h:sepCode p.max_ row col sh sh2 out=0) {n:Nat} (hn:n<=col.length):-200000000000000000<=sepS p pol fill row col sh x y n/\sepS p pol fill row col sh x y n<=200000000000000000:=
  part_bd (sep_ok h).2.2.2.2 (fun k _=>(mid_acc hp he h).2) hn
theorem mid_bd {sh sh2 out x y:Int} {row col:List Int} (h:sepCode p.max_ row col sh sh2 out=0):-68719476736<=midV p pol fill row sh x y/\midV p pol fill row sh x y<=68719476736:=by
  have h1:=(mid_acc hp he h (x:=x) (y:=y)).2;have h2:=bnd_t (sep_ok h).2.2.2.2;omega
theorem tap_part {t:TapV} {k:Int} (h:bndOK t.weights 0 p.max_=true) {n:Nat} (hn:n<=t.weights.length):-200000000000000000<=tapS p pol fill t k n/\tapS p pol fill t k n<=200000000000000000:=part_bd h (fun _ _=>pix_bd hp he) hn
theorem tap_acc {t:TapV} {sh k:Int} (h:bndOK t.weights 0 p.max_=true):accP (tapS p pol fill t k t.weights.length)/\spLo p.max_ sh t<=tapV p pol fill t sh k/\tapV p pol fill t sh k<=spHi p.max_ sh t:=bnd_sum h (fun _ _=>pix_bd hp he)
theorem tap_run {x y:List TapV} {s s2 out k:Int} {t:TapV} (h:resCode p.w p.h p.max_ x y s s2 out=0) (ht:t∈x):runLo (spLo p.max_ s) x<=tapV p pol fill t s k/\tapV p pol fill t s k<=runHi (spHi p.max_ s) x:=by
  have h1:=tap_acc hp he (sh:=s) (k:=k) (List.all_eq_true.1 (res_ok h).2.2.2.2.2.1 t ht)
  have h2:=runLo_le (f:=spLo p.max_ s) ht;have h3:=runHi_le (f:=spHi p.max_ s) ht
  omega
theorem res_part {x y:List TapV} {s s2 out:Int} {t u:TapV} (h:resCode p.w p.h p.max_ x y s s2 out=0) (ht:t∈x) (hu:u∈y) {n:Nat} (hn:n<=u.weights.length):-200000000000000000<=resS p pol fill t u s n/\resS p pol fill t u s n<=200000000000000000:=
  part_bd (List.all_eq_true.1 (res_ok h).2.2.2.2.2.2 u hu) (fun _ _=>tap_run hp he h ht) hn
theorem tap_bd {x y:List TapV} {s s2 out k:Int} {t u:TapV} (h:resCode p.w p.h p.max_ x y s s2 out=0) (ht:t∈x) (hu:u∈y):-68719476736<=tapV p pol fill t s k/\tapV p pol fill t s k<=68719476736:=by
  have h1:=tap_run hp he h ht (k:=k);have h2:=bnd_t (List.all_eq_true.1 (res_ok h).2.2.2.2.2.2 u hu);omega
end
def binV (v mx bins:Int):Int:=if (1<=mx/\mx<=4294967296)/\(0<=v/\v<=mx)/\1<=bins/\bins<=128 then v*bins/(mx+1) else 0
theorem bin_bd {v mx bins:Int} (hb:1<=bins):0<=binV v mx bins/\binV v mx bins<bins:=by
  unfold binV
  split
  · exact (by rename_i h;have h0:0<=v*bins:=Int.mul_nonneg (by omega) (by omega);exact ⟨Int.ediv_nonneg h0 (by omega),Int.ediv_lt_of_lt_mul (by omega) (by have h1:v*bins<(mx+1)*bins:=Int.mul_lt_mul_of_pos_right (by omega) (by omega);rw [Int.mul_comm bins];exact h1)⟩)
  · omega
def incV (c:List Int) (k:Int):List Int:=c.set k.toNat (c.getD k.toNat 0+1)
def pixAt (p:PlaneV) (x y:Int):Int:=p.pix.getD (y*p.w+x).toNat 0
def cntV (p:PlaneV) (bins:Int) (r:Rct) (n:Nat):List Int:=(gridN (r.x1-r.x0) (fun i j=>pixAt p (r.x0+i) (r.y0+j)) n).foldl (fun c v=>incV c (binV v p.max_ bins)) (List.replicate bins.toNat 0)
theorem cnt_len (p:PlaneV) (bins:Int) (r:Rct) (n:Nat):(cntV p bins r n).length=bins.toNat:=by
  unfold cntV
  have:∀(l c:List Int),(l.foldl (fun c v=>incV c (binV v p.max_ bins)) c).length=c.length:=by
    intro l
    induction l with
    |nil=>intro c;rfl
    |cons v l ih=>intro c;rw [List.foldl_cons,ih];simp [incV]
  rw [this,List.length_replicate]
theorem cnt_succ {p:PlaneV} {bins:Int} {r:Rct} {w i j:Nat} (hw:r.x1-r.x0=(w:Int)) (hj:j<w):cntV p bins r (i*w+j+1)=incV (cntV p bins r (i*w+j)) (binV (pixAt p (r.x0+j) (r.y0+i)) p.max_ bins):=by
  unfold cntV
  rw [hw,grid_succ hj,List.foldl_append];rfl
theorem cnt_bd {p:PlaneV} {bins:Int} {r:Rct} (n:Nat):∀z∈cntV p bins r n,0<=z/\z<=n:=by
 have a0:∀(l c:List Int) (m:Int),(∀z∈c,0<=z/\z<=m)->0<=m->∀z∈l.foldl (fun c v=>incV c (binV v p.max_ bins)) c,0<=z/\z<=m+l.length:=by
  intro l
  induction l with
  |nil=>intro c m h _ z hz;have:=h z hz;simp;omega
  |cons v l ih=>
   intro c m h hm z hz
   have h2:∀z∈incV c (binV v p.max_ bins),0<=z/\z<=m+1:=by
    intro z hz
    unfold incV at hz
    rcases List.mem_or_eq_of_mem_set hz with hz|rfl
    ·have:=h z hz;omega
    ·have:=getD_bd hm h (binV v p.max_ bins).toNat;omega
   have:=ih _ (m+1) h2 om z (by rw [List.foldl_cons] at hz;exact hz)
   simp only [List.length_cons];push_cast;omega
 intro z hz
 unfold cntV at hz
 have:=a0 _ _ 0 (fun z hz=>by have:=List.eq_of_mem_replicate hz;omega) om z hz
 rw [grid_len] at this;omega
def partC (p:PlaneV) (bins:Int) (r:Rct):Int:=if planeOK p=true then (if 1<=bins/\bins<=128 then (if rIn r p.w p.h then 0 else 8) else 9) else 1
def partV (p:PlaneV) (bins:Int) (r:Rct):List Int:=if partC p bins r=0 then cntV p bins r (areaN r) else []
def histT (p:PlaneV) (bins:Int):PlaneV×Int:=okT (partC p bins ⟨0,0,p.w,p.h⟩) ⟨bins,1,p.w*p.h,cntV p bins ⟨0,0,p.w,p.h⟩ (areaN ⟨0,0,p.w,p.h⟩)⟩
def floorV (x y:Int):Int:=if y=0 then 0 else Int.fdiv x y
def appV (o:POp) (x y a b:Int):Int:=
  if o.code=0 then a else if o.code=1 then b else if o.code=2 then o.arg else if o.code=3 then x+y else if o.code=4 then x-y else if o.code=5 then timesV x y
  else if o.code=6 then min x y else if o.code=7 then max x y else if o.code=8 then ((x-y).natAbs:Int) else if o.code=9 then floorV x y else if o.code=10 then shiftV x o.arg else (x.natAbs:Int)
def appOK (o:POp) (x y a b:Int):Prop:=(o.code=5->timesOK x y=true)/\accP (appV o x y a b)
instance (x:Int):Decidable (accP x):=by unfold accP;infer_instance
instance (o:POp) (x y a b:Int):Decidable (appOK o x y a b):=by unfold appOK;infer_instance
def stY (o:POp) (st:List Int):Int:=if takesV o.code=2 then st.getD (st.length-1) 0 else 0
def stX (o:POp) (st:List Int):Int:=if 0<takesV o.code then st.getD (st.length-(takesV o.code).toNat) 0 else 0
def rnGo (a b:Int):List POp->List Int->Option (List Int)
  |[],st=>some st
  |o::l,st=>if appOK o (stX o st) (stY o st) a b then rnGo a b l (st.take (st.length-(takesV o.code).toNat)++[appV o (stX o st) (stY o st) a b]) else none
def runV (l:List POp) (a b:Int):Int×Int:=match rnGo a b l [] with|some st=>(st.getD 0 0,0)|none=>(0,11)
def pwX (p q:PlaneV) (two:Bool) (l:List POp) (out x y:Int):Int:=clampV (runV l (pixAt p x y) (if two=true then pixAt q x y else 0)).1 out
def pwT (p q:PlaneV) (two:Bool) (l:List POp) (out:Int) (r:Rct):PlaneV×Int:=
  okT (if planeOK p=true/\(two=true->planeOK q=true) then (if pwCode l two p.max_ q.max_ out=0 then (if (two=true->p.w=q.w/\p.h=q.h)/\rIn r p.w p.h then 0 else 8) else pwCode l two p.max_ q.max_ out) else 1) (mkPl r out (pwX p q two l out))
def colS (p:PlaneV) (x y:Int) (n:Nat):Int:=sumN (fun b=>pixAt p x (y+b)) n
def recS (p:PlaneV) (x y:Int) (i j:Nat):Int:=sumN (fun a=>colS p (x+a) y j) i
theorem sumN_add (f g:Nat->Int):∀n:Nat,sumN (fun k=>f k+g k) n=sumN f n+sumN g n
  |0=>rfl
  |n+1=>by rw [sumN_succ,sumN_succ,sumN_succ,sumN_add f g n];omega
theorem sumN_nil:∀n:Nat,sumN (fun _=>0) n=0
  |0=>rfl
  |n+1=>by rw [sumN_succ,sumN_nil n];rfl
theorem sumN_swap (f:Nat->Nat->Int) (i:Nat):∀j:Nat,sumN (fun a=>sumN (fun b=>f a b) j) i=sumN (fun b=>sumN (fun a=>f a b) i) j
  |0=>by simp only [sumN_zero];exact sumN_nil i
  |j+1=>by
    rw [sumN_succ,<-sumN_swap f i j,<-sumN_add]
    exact sumN_congr i (fun a _=>sumN_succ _ _)
theorem rec_rows (p:PlaneV) (x y:Int) (i j:Nat):recS p x y i j=sumN (fun b=>sumN (fun a=>pixAt p (x+a) (y+b)) i) j:=sumN_swap (fun a b=>pixAt p (x+a) (y+b)) i j
theorem rec_down (p:PlaneV) (x y:Int) (i j:Nat):recS p x y i (j+1)=recS p x y i j+sumN (fun a=>pixAt p (x+a) (y+j)) i:=by rw [rec_rows,rec_rows,sumN_succ]
theorem pixAt_bd {p:PlaneV} (h:planeOK p=true) (x y:Int):0<=pixAt p x y/\pixAt p x y<=p.max_:=by
  have h1:=plane_sz h;have h2:=pix_mx h
  exact getD_bd (by omega) h1.2.2 _
theorem rec_bd {p:PlaneV} (h:planeOK p=true) (x y:Int) (i j:Nat):0<=recS p x y i j/\recS p x y i j<=p.max_*j*i:=by
 have hc:∀z:Int,0<=colS p z y j/\colS p z y j<=p.max_*j:=fun z=>by
  have h1:=sumN_le (f:=fun _=>0) (g:=fun b=>pixAt p z (y+b)) j (fun k _=>(pixAt_bd h _ _).1)
  have h2:=sumN_bd (f:=fun b=>pixAt p z (y+b)) (B:=p.max_) j (fun k _=>by have:=pixAt_bd h z (y+k);omega)
  rw [sumN_nil] at h1
  unfold colS;omega
 have h1:=sumN_le (f:=fun _=>0) (g:=fun a=>colS p (x+a) y j) i (fun k _=>(hc _).1)
 have h2:=sumN_bd (f:=fun a=>colS p (x+a) y j) (B:=p.max_*j) i (fun k _=>by have:=hc (x+k);omega)
 rw [sumN_nil] at h1
 unfold recS;omega
def inM (m:Int) (l:List Int):Bool:=l.all fun v=>decide (0<=v/\v<=m)
def itgX (p:PlaneV) (left top:List Int) (corner:Int) (r:Rct) (i j:Int):Int:=left.getD j.toNat 0+top.getD i.toNat 0-corner+recS p r.x0 r.y0 (i.toNat+1) (j.toNat+1)
def itgL (p:PlaneV) (left top:List Int) (corner:Int) (r:Rct):List Int:=gridN (r.x1-r.x0) (itgX p left top corner r) (areaN r)
def itgC (p:PlaneV) (r:Rct) (left top:List Int) (corner:Int):Int:=
  if planeOK p=true then (if mostOK p.w p.h p.max_=true then (if rIn r p.w p.h/\(left.length:Int)=r.y1-r.y0/\(top.length:Int)=r.x1-r.x0 then
    (if inM (mostV p.w p.h p.max_) (corner::left++top)=true/\inM (mostV p.w p.h p.max_) (itgL p left top corner r)=true then 0 else 2) else 8) else 11) else 1
def itgT (p:PlaneV) (r:Rct) (left top:List Int) (corner:Int):PlaneV×Int:=okT (itgC p r left top corner) ⟨r.x1-r.x0,r.y1-r.y0,mostV p.w p.h p.max_,itgL p left top corner r⟩
def itgW (p:PlaneV):PlaneV×Int:=okT (if planeOK p=true then (if mostOK p.w p.h p.max_=true then 0 else 11) else 1) ⟨p.w,p.h,mostV p.w p.h p.max_,gridN p.w (fun i j=>recS p 0 0 (i.toNat+1) (j.toNat+1)) (p.w*p.h).toNat⟩
def stgT (s:StageV) (p q:PlaneV):PlaneV×Int:=
  if planeOK p=true/\(twoP s->planeOK q=true) then (if (ofV s (shpOf p) (shpOf q)).2=0 then
    (if s.kind=4 then histT p s.bins else if s.kind=5 then itgW p
     else if s.kind=1 then convT p s.edgePolicy s.edgeFill s.kW s.kH s.weights s.shift s.max_ ⟨0,0,(ofV s (shpOf p) (shpOf q)).1.w,(ofV s (shpOf p) (shpOf q)).1.h⟩
     else if s.kind=2 then sepT p s.edgePolicy s.edgeFill s.row s.col s.shift s.shift2 s.max_ ⟨0,0,(ofV s (shpOf p) (shpOf q)).1.w,(ofV s (shpOf p) (shpOf q)).1.h⟩
     else if s.kind=3 then resT p s.edgePolicy s.edgeFill s.x s.y s.shift s.shift2 s.max_ ⟨0,0,(ofV s (shpOf p) (shpOf q)).1.w,(ofV s (shpOf p) (shpOf q)).1.h⟩
     else pwT p q (decide (twoP s)) s.ops s.max_ ⟨0,0,(ofV s (shpOf p) (shpOf q)).1.w,(ofV s (shpOf p) (shpOf q)).1.h⟩) else (zPl,(ofV s (shpOf p) (shpOf q)).2)) else (zPl,1)
theorem clamp_bd {v m:Int} (h:0<=m):0<=clampV v m/\clampV v m<=m:=by unfold clampV;split<;>(try split)<;>omega
theorem arN_eq {r:Rct} {w h:Int} (hr:rIn r w h):(areaN r:Int)=(r.x1-r.x0)*(r.y1-r.y0):=by
  unfold rIn at hr
  have:=Int.mul_nonneg (show 0<=r.x1-r.x0 by omega) (show 0<=r.y1-r.y0 by omega)
  unfold areaN;omega
theorem plane_mk {p:PlaneV} (h1:sizeP p.w p.h p.max_) (h2:(p.pix.length:Int)=p.w*p.h) (h3:∀z∈p.pix,0<=z/\z<=p.max_):planeOK p=true:=
  planeOK_t ⟨h1,h2⟩ (by unfold pixOK;rw [List.all_eq_true];exact fun z hz=>decide_eq_true (h3 z hz))
theorem grid_mem {w:Int} {f:Int->Int->Int} {n:Nat} {z:Int} (h:z∈gridN w f n):∃k:Nat,k<n/\z=f ((k:Int)%w) ((k:Int)/w):=by
  unfold gridN at h
  obtain ⟨k,hk,rfl⟩:=List.mem_map.1 h
  exact ⟨k,List.mem_range.1 hk,rfl⟩
theorem mk_ok {r:Rct} {mx w h:Int} {f:Int->Int->Int} (hr:rIn r w h) (hw:w<=128/\h<=128) (ha:(r.x1-r.x0)*(r.y1-r.y0)<=4096) (hm:1<=mx/\mx<=4294967296) (hf:∀x y,0<=f x y/\f x y<=mx):
    planeOK (mkPl r mx f)=true/\shpOf (mkPl r mx f)=⟨r.x1-r.x0,r.y1-r.y0,mx⟩:=by
  refine ⟨plane_mk ?_ ?_ ?_,rfl⟩
  · unfold sizeP mkPl;unfold rIn at hr;dsimp only;omega
  · unfold mkPl;dsimp only;rw [grid_len,arN_eq hr]
  · exact (by intro z hz;have a0:z∈gridN (r.x1-r.x0) (fun i j=>f (r.x0+i) (r.y0+j)) (areaN r):=hz;obtain ⟨k,_,rfl⟩:=grid_mem a0;exact hf _ _)
theorem edgC_ok {p:PlaneV} {pol fill w h:Int} {r:Rct} {c:Int} (hp:planeOK p=true) (he:edgeV pol fill p.max_) (hc:c=0) (hr:rIn r w h):edgC p pol fill c w h r=0:=by
  unfold edgC;rw [if_pos ⟨hp,he⟩,if_pos hc,if_pos hr]
theorem conv_whole {p:PlaneV} {pol fill kw kh sh out:Int} {ws:List Int} {r:Rct} (hp:planeOK p=true) (he:edgeV pol fill p.max_) (hc:convCode p.max_ kw kh ws sh out=0) (hr:rIn r p.w p.h) (ha:(r.x1-r.x0)*(r.y1-r.y0)<=4096):
  convT p pol fill kw kh ws sh out r=(mkPl r out (convX p pol fill kw kh ws sh out),0)/\planeOK (convT p pol fill kw kh ws sh out r).1=true/\shpOf (convT p pol fill kw kh ws sh out r).1=⟨r.x1-r.x0,r.y1-r.y0,out⟩:=by
 have e:convT p pol fill kw kh ws sh out r=(mkPl r out (convX p pol fill kw kh ws sh out),0):=okT_0 (edgC_ok hp he hc hr)
 have hs:=(plane_sz hp).1;unfold sizeP at hs
 have ho:=(conv_ok hc).2.2.2.2.1
 rw [e]
 exact ⟨rfl,mk_ok hr om ha ho (fun x y=>clamp_bd om)⟩
theorem sep_whole {p:PlaneV} {pol fill sh sh2 out:Int} {row col:List Int} {r:Rct} (hp:planeOK p=true) (he:edgeV pol fill p.max_) (hc:sepCode p.max_ row col sh sh2 out=0) (hr:rIn r p.w p.h) (ha:(r.x1-r.x0)*(r.y1-r.y0)<=4096):
  sepT p pol fill row col sh sh2 out r=(mkPl r out (sepX p pol fill row col sh sh2 out),0)/\planeOK (sepT p pol fill row col sh sh2 out r).1=true/\shpOf (sepT p pol fill row col sh sh2 out r).1=⟨r.x1-r.x0,r.y1-r.y0,out⟩:=by
 have e:sepT p pol fill row col sh sh2 out r=(mkPl r out (sepX p pol fill row col sh sh2 out),0):=okT_0 (edgC_ok hp he hc hr)
 have hs:=(plane_sz hp).1;unfold sizeP at hs
 have ho:=(sep_ok hc).2.2.1
 rw [e]
 exact ⟨rfl,mk_ok hr om ha ho (fun x y=>clamp_bd om)⟩
theorem res_whole {p:PlaneV} {pol fill sh sh2 out:Int} {x y:List TapV} {r:Rct} (hp:planeOK p=true) (he:edgeV pol fill p.max_) (hc:resCode p.w p.h p.max_ x y sh sh2 out=0) (hr:rIn r x.length y.length) (ha:(r.x1-r.x0)*(r.y1-r.y0)<=4096):
  resT p pol fill x y sh sh2 out r=(mkPl r out (resX p pol fill x y sh sh2 out),0)/\planeOK (resT p pol fill x y sh sh2 out r).1=true/\shpOf (resT p pol fill x y sh sh2 out r).1=⟨r.x1-r.x0,r.y1-r.y0,out⟩:=by
 have e:resT p pol fill x y sh sh2 out r=(mkPl r out (resX p pol fill x y sh sh2 out),0):=okT_0 (edgC_ok hp he hc hr)
 have hk:=res_ok hc
 have h1:=tapsCode_len hk.1;have h2:=tapsCode_len hk.2.1
 rw [e]
 exact ⟨rfl,mk_ok hr om ha hk.2.2.2.2.1 (fun x y=>clamp_bd om)⟩
theorem opsCode_out {l:List POp} {two:Bool} {a b out:Int} (h:pwCode l two a b out=0):1<=out/\out<=4294967296:=by
  unfold pwCode at h
  split at h
  · split at h
    · assumption
    · omega
  · rename_i h1;exact absurd h h1
theorem pw_whole {p q:PlaneV} {two:Bool} {l:List POp} {out:Int} {r:Rct} (hp:planeOK p=true) (hq:two=true->planeOK q=true) (hc:pwCode l two p.max_ q.max_ out=0) (hs2:two=true->p.w=q.w/\p.h=q.h) (hr:rIn r p.w p.h) (ha:(r.x1-r.x0)*(r.y1-r.y0)<=4096):
  pwT p q two l out r=(mkPl r out (pwX p q two l out),0)/\planeOK (pwT p q two l out r).1=true/\shpOf (pwT p q two l out r).1=⟨r.x1-r.x0,r.y1-r.y0,out⟩:=by
 have e:pwT p q two l out r=(mkPl r out (pwX p q two l out),0):=by unfold pwT;rw [if_pos ⟨hp,hq⟩,if_pos hc,if_pos ⟨hs2,hr⟩];exact okT_0 rfl
 have hs:=(plane_sz hp).1;unfold sizeP at hs
 have ho:=opsCode_out hc
 rw [e]
 exact ⟨rfl,mk_ok hr om ha ho (fun x y=>clamp_bd om)⟩
theorem all_in {p:PlaneV} (hp:planeOK p=true):rIn ⟨0,0,p.w,p.h⟩ p.w p.h/\(areaN ⟨0,0,p.w,p.h⟩:Int)=p.w*p.h:=by
  have hs:=(plane_sz hp).1;unfold sizeP at hs
  have hr:rIn ⟨0,0,p.w,p.h⟩ p.w p.h:=by unfold rIn;dsimp only;omega
  exact ⟨hr,by rw [arN_eq hr];dsimp only;rw [Int.sub_zero,Int.sub_zero]⟩
theorem hist_whole {p:PlaneV} {bins:Int} (hp:planeOK p=true) (hb:1<=bins/\bins<=128):
  (histT p bins).2=0/\planeOK (histT p bins).1=true/\shpOf (histT p bins).1=⟨bins,1,p.w*p.h⟩:=by
 obtain ⟨hr,ha⟩:=all_in hp
 have hs:=(plane_sz hp).1;unfold sizeP at hs
 have a0:=Int.mul_le_mul (show (1:Int)<=p.w by omega) (show (1:Int)<=p.h by omega) om om
 have e:partC p bins ⟨0,0,p.w,p.h⟩=0:=by unfold partC;rw [if_pos hp,if_pos hb,if_pos hr]
 unfold histT
 rw [okT_0 e]
 refine ⟨rfl,plane_mk ?_ ?_ ?_,rfl⟩
 ·unfold sizeP;dsimp only;omega
 ·dsimp only;rw [cnt_len];omega
 · exact (by intro z hz;have:=cnt_bd _ z hz;dsimp only;omega)
theorem itg_whole {p:PlaneV} (hp:planeOK p=true) (hm:mostOK p.w p.h p.max_=true):
  (itgW p).2=0/\planeOK (itgW p).1=true/\shpOf (itgW p).1=⟨p.w,p.h,mostV p.w p.h p.max_⟩:=by
 have hs:=(plane_sz hp).1;unfold sizeP at hs
 have b0:=of_decide_eq_true hm
 have hv:mostV p.w p.h p.max_=p.w*p.h*p.max_:=by unfold mostV;rw [if_pos hm]
 have d0:=Int.mul_le_mul (show (1:Int)<=p.w by omega) (show (1:Int)<=p.h by omega) om om
 have c0:=Int.mul_le_mul (show (1:Int)<=p.w*p.h by omega) b0.2.2.1 om om
 unfold itgW
 rw [if_pos hp,if_pos hm,okT_0 rfl]
 refine ⟨rfl,plane_mk ?_ ?_ ?_,rfl⟩
 ·unfold sizeP;dsimp only;rw [hv];omega
 ·dsimp only;rw [grid_len];omega
 · exact (by intro z hz;dsimp only at hz⊢;obtain ⟨k,hk,rfl⟩:=grid_mem hz;have a0:(k:Int)<p.w*p.h:=(by omega);have hix:=tile_ix (nx:=p.w) (ny:=p.h) (i:=(k:Int)) om om a0;have hb:=rec_bd hp 0 0 (((k:Int)%p.w).toNat+1) (((k:Int)/p.w).toNat+1);have h1:p.max_*((((k:Int)/p.w).toNat+1:Nat):Int)<=p.max_*p.h:=Int.mul_le_mul_of_nonneg_left om om;have h0:0<=p.max_*p.h:=Int.mul_nonneg om om;have h2:p.max_*((((k:Int)/p.w).toNat+1:Nat):Int)*((((k:Int)%p.w).toNat+1:Nat):Int)<=p.max_*p.h*p.w:=Int.mul_le_mul h1 om om h0;rw [hv,show p.w*p.h*p.max_=p.max_*p.h*p.w by rw [Int.mul_comm (p.w*p.h),Int.mul_comm p.w,Int.mul_assoc]];exact ⟨hb.1,Int.le_trans hb.2 h2⟩)
theorem stg_ok {s:StageV} {p q:PlaneV} (hp:planeOK p=true) (hq:twoP s->planeOK q=true) (h:(ofV s (shpOf p) (shpOf q)).2=0):
  (stgT s p q).2=0/\planeOK (stgT s p q).1=true/\shpOf (stgT s p q).1=(ofV s (shpOf p) (shpOf q)).1:=by
 have hs:=(plane_sz hp).1;unfold sizeP at hs
 obtain ⟨hr,ha⟩:=all_in hp
 have b0:∀w h:Int,(p.w-0)*(p.h-0)<=4096:=fun _ _=>by rw [Int.sub_zero,Int.sub_zero];omega
 unfold stgT
 rw [if_pos ⟨hp,hq⟩,if_pos h]
 unfold ofV at h⊢
 split at h
 ·rename_i hf
  rw [if_pos hf]
  split at h
  ·rename_i hz
   rw [if_pos hz]
   split at h
   ·rename_i hed
    rw [if_pos hed]
    split at h
    ·rename_i hk
     rw [if_pos hk]
     have f0:1<=s.kind/\s.kind<=6:=by unfold fieldsP at hf;omega
     have hE:s.kind=1\/s.kind=2\/s.kind=3->edgeV s.edgePolicy s.edgeFill p.max_:=fun h=>(hed.resolve_left (fun hn=>hn h))
     refine bD (s.kind=1) (fun h1=>(by have hv:kernelV s (shpOf p) (shpOf q)=(⟨p.w,p.h,s.max_⟩,convCode p.max_ s.kW s.kH s.weights s.shift s.max_):=(by unfold kernelV;rw [if_pos h1];rfl);rw [hv] at hk⊢;rw [if_neg om,if_neg om,if_pos h1];have h:=conv_whole (r:=⟨0,0,p.w,p.h⟩) hp (hE (.inl h1)) hk hr (b0 p.w p.h);exact ⟨congrArg Prod.snd h.1,h.2.1,h.2.2.trans (by simp)⟩)) fun h1=>bD (s.kind=2) (fun h2=>(by have hv:kernelV s (shpOf p) (shpOf q)=(⟨p.w,p.h,s.max_⟩,sepCode p.max_ s.row s.col s.shift s.shift2 s.max_):=(by unfold kernelV;rw [if_neg h1,if_pos h2];rfl);rw [hv] at hk⊢;rw [if_neg om,if_neg om,if_neg h1,if_pos h2];have h:=sep_whole (r:=⟨0,0,p.w,p.h⟩) hp (hE (.inr (.inl h2))) hk hr (b0 p.w p.h);exact ⟨congrArg Prod.snd h.1,h.2.1,h.2.2.trans (by simp)⟩)) fun h2=>bD (s.kind=3) (fun h3=>(by have hv:kernelV s (shpOf p) (shpOf q)=(⟨s.x.length,s.y.length,s.max_⟩,resCode p.w p.h p.max_ s.x s.y s.shift s.shift2 s.max_):=(by unfold kernelV;rw [if_neg h1,if_neg h2,if_pos h3];rfl);rw [hv] at hk⊢;rw [if_neg om,if_neg om,if_neg h1,if_neg h2,if_pos h3];have c0:=res_ok hk;have l1:=tapsCode_len c0.1;have l2:=tapsCode_len c0.2.1;have e0:rIn ⟨0,0,(s.x.length:Int),(s.y.length:Int)⟩ s.x.length s.y.length:=(by unfold rIn;dsimp only;omega);have h:=res_whole (r:=⟨0,0,(s.x.length:Int),(s.y.length:Int)⟩) hp (hE (.inr (.inr h3))) hk e0 (by dsimp only;rw [Int.sub_zero,Int.sub_zero];exact c0.2.2.1);exact ⟨congrArg Prod.snd h.1,h.2.1,h.2.2.trans (by simp)⟩)) fun h3=>?_
     by_cases h4:s.kind=4
     ·by_cases hb:1<=s.bins/\s.bins<=128
      · exact (by have hv:kernelV s (shpOf p) (shpOf q)=(⟨s.bins,1,p.w*p.h⟩,0):=(by unfold kernelV;rw [if_neg h1,if_neg h2,if_neg h3,if_pos h4,if_pos hb];rfl);rw [hv];rw [if_pos h4];exact hist_whole hp hb)
      · exact (by have hv:(kernelV s (shpOf p) (shpOf q)).2=9:=(by unfold kernelV;rw [if_neg h1,if_neg h2,if_neg h3,if_pos h4,if_neg hb]);omega)
     by_cases h5:s.kind=5
     ·by_cases hm:mostOK p.w p.h p.max_=true
      · exact (by have hv:kernelV s (shpOf p) (shpOf q)=(⟨p.w,p.h,mostV p.w p.h p.max_⟩,0):=(by unfold kernelV;rw [if_neg h1,if_neg h2,if_neg h3,if_neg h4,if_pos h5,if_pos (show mostOK (shpOf p).w (shpOf p).h (shpOf p).max_=true from hm)];rfl);rw [hv];rw [if_neg h4,if_pos h5];exact itg_whole hp hm)
      · exact (by have hv:(kernelV s (shpOf p) (shpOf q)).2=11:=(by unfold kernelV;rw [if_neg h1,if_neg h2,if_neg h3,if_neg h4,if_pos h5,if_neg (show ¬mostOK (shpOf p).w (shpOf p).h (shpOf p).max_=true from hm)]);omega)
     by_cases a0:pwCode s.ops (decide (twoP s)) p.max_ q.max_ s.max_=0
     ·by_cases d0:twoP s/\¬(p.w=q.w/\p.h=q.h)
      · exact (by have hv:(kernelV s (shpOf p) (shpOf q)).2=8:=(by unfold kernelV;rw [if_neg h1,if_neg h2,if_neg h3,if_neg h4,if_neg h5,if_pos (show pwCode s.ops (decide (s.kind=6/\¬s.b=-1)) (shpOf p).max_ (shpOf q).max_ s.max_=0 from a0),if_pos (show (s.kind=6/\¬s.b=-1)/\¬((shpOf p).w=(shpOf q).w/\(shpOf p).h=(shpOf q).h) from d0)]);omega)
      · exact (by have hv:kernelV s (shpOf p) (shpOf q)=(⟨p.w,p.h,s.max_⟩,0):=(by unfold kernelV;rw [if_neg h1,if_neg h2,if_neg h3,if_neg h4,if_neg h5,if_pos (show pwCode s.ops (decide (s.kind=6/\¬s.b=-1)) (shpOf p).max_ (shpOf q).max_ s.max_=0 from a0),if_neg (show ¬((s.kind=6/\¬s.b=-1)/\¬((shpOf p).w=(shpOf q).w/\(shpOf p).h=(shpOf q).h)) from d0)];rfl);rw [hv];rw [if_neg h4,if_neg h5,if_neg h1,if_neg h2,if_neg h3];have h:=pw_whole (r:=⟨0,0,p.w,p.h⟩) (two:=decide (twoP s)) hp (fun h=>hq (of_decide_eq_true h)) a0 (fun h=>Classical.not_not.1 (fun hn=>d0 ⟨of_decide_eq_true h,hn⟩)) hr (b0 p.w p.h);exact ⟨congrArg Prod.snd h.1,h.2.1,h.2.2.trans (by simp)⟩)
     · exact (by have hv:(kernelV s (shpOf p) (shpOf q)).2=pwCode s.ops (decide (twoP s)) p.max_ q.max_ s.max_:=(by unfold kernelV;rw [if_neg h1,if_neg h2,if_neg h3,if_neg h4,if_neg h5,if_neg (show ¬pwCode s.ops (decide (s.kind=6/\¬s.b=-1)) (shpOf p).max_ (shpOf q).max_ s.max_=0 from a0)];rfl);exact absurd (hv.symm.trans hk) a0)
    ·omega
   ·omega
  ·omega
 ·omega
theorem rIn_area {r:Rct} {w h:Int} (hr:rIn r w h) (hm:w*h<=4096):(r.x1-r.x0)*(r.y1-r.y0)<=4096:=by
  unfold rIn at hr
  have:=Int.mul_le_mul (show r.x1-r.x0<=w by omega) (show r.y1-r.y0<=h by omega) (by omega) (by omega)
  omega
end Go.Proofs.YtghcddbhllkbmaaGreat
namespace Go.E
section
variable {P:Program} {n:Nat} {ρ:Env} {W w:World} {cs:List Chunk} {ops:Array Oper} {rest:List Oper} {N:Env->World->Prop} {o:Oper}
theorem sMake0 {α:Type} {enc:α->List Value} (hS:Sat W w cs) (m:Nat) (v:Int) (hv:v=(m:Int)) {t E:TypeId} {x y:Operand} {i:TypeInfo} {z:Value} {sz nb:Nat} {kl kc:IntKind} (ht:P.underlying t=some (.slice E)) (hi:P.info? E=some i)
  (he:∀x,(enc x).length=sz)
  (h:∀b c w',OwnT enc E sz (At b 0) 0 m [] c->Sat W w' (c::cs)->OpsE P n ops rest N (put ρ o.dst (.slice (At b 0) 0 m)) w')
  (hb:nb*m<=281474976710656:=by omega)
  (ho:o.op= .makeSlice t x y:=by rfl) (hg:o.guard=none:=by rfl) (hd:dstOK n o.dst=true:=by rfl)
  (hz:i.zero=some z:=by rfl) (hsize:i.size=sz:=by rfl) (hby:i.bytes=nb:=by rfl)
  (hx:ev ρ x= .int kl 0:=by kernel_rfl) (hy:ev ρ y= .int kc v:=by kernel_rfl) (hnb:0<nb:=by omega):OpsE P n ops (o::rest) N ρ w:=by
 subst hv
 have c0:m<=maxLen:=(by have:1*m<=nb*m:=Nat.mul_le_mul_right _ hnb;have h0:maxLen=9223372036854775807:=(by simp [maxLen]);omega)
 have b0:(m:Int)<=9223372036854775807:=(by have h0:=c0;simp [maxLen] at h0;omega)
 have d0:(i.bytes:Int)*(m:Int)<=281474976710656:=(by have h0:((i.bytes*m:Nat):Int)<=281474976710656:=(by rw [hby];omega);rwa [Int.natCast_mul] at h0)
 have hr:=run_make (P:=P) w t E i z ht hi hz kl kc 0 m om om d0 b0
 have a0:w.grownBy (w.alloc (.cells (madeCells z.cells ((m:Int).toNat*i.size)) E)) none:=World.grownBy_alloc w _ none
 have hh:=heap_alloc_new w (.cells (madeCells z.cells ((m:Int).toNat*i.size)) E)
 simp only [Int.toNat_natCast,Int.toNat_zero] at hr
 rw [hsize] at hr a0 hh
 simp only [Int.toNat_natCast] at a0 hh
 refine stepRun (v:= .slice (some ⟨w.heap.size,0,none⟩) 0 m) (w':=w.alloc (.cells (madeCells z.cells (m*sz)) E)) hg hd ?_ (h w.heap.size [(w.heap.size, .cells (madeCells z.cells (m*sz)) E (0,0))] _ ⟨rfl,he,by simp, .inr ⟨w.heap.size,0,_,rfl,rfl,Nat.zero_le _,c0,by rw [size_madeCells];omega,by simp⟩⟩ ?_)
 · exact (by unfold execOp;rw [ho];simp [hx,hy,hr])
 ·refine ⟨a0.os.trans hS.os,a0.tape.trans hS.tape,a0.output.trans hS.output,?_,?_⟩
  · exact (by simp only [List.flatten_cons,List.singleton_append,List.map_cons,List.nodup_cons];refine ⟨fun hm=>?_,hS.nd⟩;obtain ⟨p,hp,he⟩:=List.mem_map.1 hm;have:=hS.lt (b:=p.1) (o:=p.2) hp;omega)
  ·intro p hp
   simp only [List.flatten_cons,List.singleton_append,List.mem_cons] at hp
   rcases hp with rfl|hp
   ·exact hh
   · exact (by have hl:=hS.lt (b:=p.1) (o:=p.2) hp;rw [a0.block p.1 hl (by simp)];exact hS.all p hp)
end
end Go.E
namespace Go.E
set_option linter.unusedVariables false
set_option linter.unusedSimpArgs false
section
variable {P:Program} {n:Nat} {ρ:Env} {W w:World} {cs:List Chunk} {ops:Array Oper} {rest:List Oper} {N:Env->World->Prop} {o:Oper}
theorem sCopy {α:Type} {enc:α->List Value} {E sz:Nat} {a:Option Addr} {m cap:Nat} {xs:List α} {c:Chunk} (hS:Sat W w cs) (hO:OwnT enc E sz a m cap xs c) (j lo hi:Nat) (h1:hi<=lo) (h2:lo<=m)
  {t:TypeId} {args:Array Operand} {ats:Array TypeId} {x y:Operand} (hu:∀w,(underlying t).run P w= .ok (.slice E) w) (hsz:∀w,(sizeOf E).run P w= .ok sz w) (hone:∀z,∀v∈enc z,v.oneCell'=true)
  (h:∀w' c',OwnT enc E sz a m cap (xs.take lo++(xs.drop hi).take (m-lo)) c'->Sat W w' (cs.set j c')->OpsE P n ops rest N (put ρ o.dst (I ((m-lo:Nat):Int))) w')
  (ho:o.op= .call {callee:= .builtin .copy,args:=args,argTypes:=ats}:=by rfl) (hargs:args=#[x,y]:=by rfl) (hats:ats=#[t,t]:=by rfl) (hg:o.guard=none:=by rfl) (hd:dstOK n o.dst=true:=by rfl) (hj:cs[j]?=some c:=by rfl)
  (hx:ev ρ x= .slice (partAddr a cap lo sz) (m-lo) (cap-lo):=by kernel_rfl) (hy:ev ρ y= .slice (partAddr a cap hi sz) (m-hi) (cap-hi):=by kernel_rfl):OpsE P n ops (o::rest) N ρ w:=by
 subst hargs;subst hats
 have f0:∀w' c',OwnT enc E sz a m cap (xs.take lo++(xs.drop hi).take (m-lo)) c'->Sat W w' (cs.set j c')->(execOp (ev ρ) o).run P w= .ok (.value (I ((m-lo:Nat):Int))) w'->OpsE P n ops (o::rest) N ρ w:=fun w' c' m0 n0 hr=>
  stepRun hg hd hr (h w' c' m0 n0)
 have d0:Nat.min (m-hi) (m-lo)=m-lo:=Nat.min_eq_right om
 by_cases h0:m-lo=0
 ·refine f0 w c ?_ (hS.set j hj (fun h=>h)) ?_
  ·rw [h0,List.take_zero,List.append_nil,List.take_of_length_le (by rw [hO.1];omega)];exact hO
  ·have hf:∀b,(Builtin.firstCells sz 0 (.slice b (m-hi) (cap-hi))).run P w= .ok #[] w:=by
    intro b
    cases b with
    |none=>exact run_firstCells_none w _ _ _ _
    |some p=>exact run_firstCells_some (P:=P) w sz 0 p _ _ [] (by simp) (by simp)
   unfold execOp
   rw [ho]
   simp only [resolve,invoke,builtin,List.map_toArray,List.map_cons,List.map_nil,hx,hy]
   cases partAddr a cap lo sz<;>simp [Builtin.copy_,hu,hsz,Builtin.lenOf,d0,h0,hf,goInt,storeCells]
 ·obtain ⟨hl,he,c0,hr⟩:=hO
  have hO:OwnT enc E sz a m cap xs c:=⟨hl,he,c0,hr⟩
  rcases hr with ⟨_,rfl,_⟩|⟨b,g0,i0,rfl,rfl,hn,o0,hf,ht⟩
  ·omega
  ·have q0:¬cap=lo:=by omega
   have e0:¬cap=hi:=by omega
   have t0:m*sz<=cap*sz:=Nat.mul_le_mul_right _ hn
   have s0:lo*sz<=m*sz:=Nat.mul_le_mul_right _ h2
   have r0:(m-lo)*sz=m*sz-lo*sz:=Nat.sub_mul ..
   have k0:((xs.drop hi).take (m-lo)).length=m-lo:=by rw [List.length_take,List.length_drop];omega
   have b0:(((xs.drop hi).take (m-lo)).flatMap enc).length=(m-lo)*sz:=by rw [flatMap_len he,k0]
   have hR:=(hO.rdAt (cs:=cs) j hj).part (lo:=hi) (hi:=hi+(m-lo)) om om
   rw [show hi+(m-lo)-hi=m-lo by omega] at hR
   have a0:=hR.2.2
   simp only [partAddr,if_neg e0,Option.map_some,add_off] at a0
   obtain ⟨_,_,_,hp⟩:=a0
   rcases hp with hp|⟨b2,o2,e2,hp⟩
   ·omega
   simp only [Option.some.injEq,Addr.mk.injEq,and_true] at e2
   obtain ⟨rfl,rfl⟩:=e2
   have p0:=run_firstCells_some (P:=P) w sz (m-lo) ⟨b,g0+hi*sz,none⟩ (m-hi) (cap-hi) (((xs.drop hi).take (m-lo)).flatMap enc) b0 (fun j v hv=>by rw [add_off];exact hp.cell hS hv)
   have j0:∀u∈((xs.drop hi).take (m-lo)).flatMap enc,u.oneCell'=true:=(by intro u hu';obtain ⟨z,_,hz⟩:=List.mem_flatMap.1 hu';exact hone z u hz)
   have l0:=run_storeCells_at P b (g0+lo*sz) E (((xs.drop hi).take (m-lo)).flatMap enc) 0 i0 w (hS.at j hj) (by simp only [Nat.add_zero,b0];omega) j0
   simp only [Nat.add_zero] at l0
   refine f0 (w.setRow b (wr i0 (g0+lo*sz) (((xs.drop hi).take (m-lo)).flatMap enc))) [(b, .cells (wr i0 (g0+lo*sz) (((xs.drop hi).take (m-lo)).flatMap enc)) E (0,0))] ?_ (hS.rowAt j hj _) ?_
   · exact (by refine ⟨by rw [List.length_append,k0,List.length_take];omega,he,?_⟩;refine ⟨by rw [flatMap_len he];congr 1;rw [List.length_append,k0,List.length_take];omega, .inr ⟨b,g0,_,rfl,rfl,hn,o0,by rw [size_wr (by rw [b0];omega)];exact hf,?_⟩⟩;rw [wr_own om (by rw [b0];omega),ht,List.flatMap_append,show (xs.take lo).flatMap enc=(xs.flatMap enc).take (lo*sz) from (flatMap_take he ..).symm];simp only [wrL];generalize ((xs.drop hi).take (m-lo)).flatMap enc=Y at b0⊢;rw [List.drop_eq_nil_of_le (by rw [c0,b0];omega)];simp)
   · exact (by unfold execOp;rw [ho];simp only [resolve,invoke,builtin,List.map_toArray,List.map_cons,List.map_nil,hx,hy,partAddr,if_neg q0,if_neg e0,Option.map_some,add_off];simp [Builtin.copy_,hu,hsz,Builtin.lenOf,d0,p0,l0,goInt,wr])
end
end Go.E
namespace Go.E
theorem partAddr_zero {a:Option Addr} {n sz:Nat} (h:∀q,a=some q->∃b off,q=⟨b,off,none⟩):partAddr a n 0 sz=a:=by
  unfold partAddr
  split
  · rfl
  · cases a with
    |none=>rfl
    |some q=>
      obtain ⟨b,off,rfl⟩:=h q rfl
      simp only [Option.map_some,Nat.zero_mul,add_off];rfl
theorem OwnS.cut {E:TypeId} {a:Option Addr} {len cap i sz:Nat} {l:List Value} {c:Chunk} (h:OwnS E sz a len cap l c) (h1:i<=len):
  OwnS E sz (partAddr a i 0 sz) i i (l.take (i*sz)) c:=by
 obtain ⟨hl,hr⟩:=h
 have c0:i*sz<=len*sz:=Nat.mul_le_mul_right _ h1
 refine ⟨by simp;omega,?_⟩
 rcases hr with ⟨rfl,rfl,rfl,rfl⟩|⟨b,a0,b0,rfl,rfl,h2,h3,h4,h5⟩
 · exact (by left;obtain rfl:i=0:=(by omega);exact ⟨by rw [partAddr_zero (fun q h=>by cases h)],rfl,rfl,rfl⟩)
 · exact (by right;have hc:i*sz<=cap*sz:=Nat.mul_le_mul_right _ om;exact ⟨b,a0,b0,partAddr_zero (fun q h=>⟨b,a0,(Option.some.inj h).symm⟩),rfl,Nat.le_refl _,om,om,(by rw [<-h5,List.take_take,Nat.min_eq_left c0])⟩)
theorem OwnT.cut {α:Type} {enc:α->List Value} {E sz:Nat} {a:Option Addr} {len cap i:Nat} {xs:List α} {c:Chunk} (h:OwnT enc E sz a len cap xs c) (h1:i<=len):
    OwnT enc E sz (partAddr a i 0 sz) i i (xs.take i) c:=by
  exact ⟨by simp [h.1];omega,h.2.1,(by rw [<-flatMap_take h.2.1];exact h.2.2.cut h1)⟩
end Go.E
