import Derived.WalkKit
import Derived.Deep.Quiet
import Derived.KernelRfl
import Derived.Laws.BytesString
import Derived.Laws.Shifts
import Derived.Laws.IdiomStrings
import Derived.OpenShut
import Derived.Deep.Slices
import Derived.ChangeSame
import Derived.Deep.Fields
import Derived.Test.YtghcddbhllkbmaaGreatProg
import Derived.Laws.IdiomRangeMap
import Derived.Test.YtghcddbhllkbmaaGreatR1P1Rx
import Derived.Test.YtghcddbhllkbmaaGreatR1P1Sy
namespace Go.Proofs.YtghcddbhllkbmaaGreat
open Go Go.E Go.Proofs.Tryz
set_option linter.all false
set_option maxRecDepth 100000
set_option maxHeartbeats 16000000
variable {W w:World} {H:Chunk} {F:List Chunk}
theorem kerT_any {s:StageV} {p q u:PlaneV} {r:Rct} (h:¬twoP s):kerT s p q r=kerT s p u r:=by
  unfold kerT
  rw [decide_eq_false h,pwT_any (q:=q) (u:=u)]
theorem cmpC_any {s:StageV} {part:Int} {p q u own:PlaneV} (h:¬twoP s):cmpC s part p q own=cmpC s part p u own:=by
  unfold cmpC
  rw [of_any (t:=shpOf q) (u:=shpOf u) h]
  simp only [h,false_implies,true_and]
theorem cmpT_any {s:StageV} {part:Int} {r:Rct} {p q u own:PlaneV} {l:List (List Int)} (h:¬twoP s):cmpT s part r p q own l=cmpT s part r p u own l:=by
  have ht:tilT s p q own r=tilT s p u own r:=by unfold tilT;rw [kerT_any (q:=q) (u:=u) h]
  unfold cmpT
  rw [cmpC_any (q:=q) (u:=u) h,ht]
theorem cmpT_if {s:StageV} {part:Int} {r:Rct} {p q own:PlaneV} {l:List (List Int)}:cmpT s part r p (if twoP s then q else zPl) own l=cmpT s part r p q own l:=by
  by_cases h:twoP s
  · rw [if_pos h]
  · rw [if_neg h];exact cmpT_any h
theorem il2 {W w:World} {F:List Chunk} {b0 b1 b2 n1 n2:Nat} {c1 c2:Array Value} {E E1 E2:TypeId} (h:Sat W w ([(b0, .cells #[.slice (At b1 0) n1 n1, .slice (At b2 0) n2 n2] E (0,0))]::[(b1, .cells c1 E1 (0,0))]::[(b2, .cells c2 E2 (0,0))]::F)) (l1 l2:List Int)
  (h1:c1.toList=l1.flatMap Go.E.encI:=by rfl) (h2:c2.toList=l2.flatMap Go.E.encI:=by rfl) (k1:l1.length=n1:=by rfl) (k2:l2.length=n2:=by rfl) (m1:n1<=100:=by omega) (m2:n2<=100:=by omega):
  ∃(T:Chunk) (ls:List IL),RdT encIL 1 [T] (At b0 0) 2 2 ls/\(∀z∈ls,IL.Ok [T] z)/\Sat W w (T::F):=by
 refine ⟨_,[⟨⟨some ⟨b1,0,none⟩,n1,n1,l1⟩⟩,⟨⟨some ⟨b2,0,none⟩,n2,n2,l2⟩⟩],?_,?_,h.merge3⟩
 ·exact (RdT.blk (cs:=[[(b0, .cells #[.slice (At b1 0) n1 n1, .slice (At b2 0) n2 n2] E (0,0))]]) (enc:=encIL) (sz:=1) fR 2 0 rfl rfl rfl om).of_mem mS
 ·intro z hz
  simp only [List.mem_cons,List.not_mem_nil,or_false] at hz
  rcases hz with rfl|rfl
  ·exact ⟨(RdT.blk (cs:=[[(b1, .cells c1 E1 (0,0))]]) (enc:=Go.E.encI) (sz:=1) (xs:=l1) fR n1 0 rfl h1 k1 om).of_mem mS⟩
  ·exact ⟨(RdT.blk (cs:=[[(b2, .cells c2 E2 (0,0))]]) (enc:=Go.E.encI) (sz:=1) (xs:=l2) fR n2 0 rfl h2 k2 om).of_mem mS⟩
theorem il2p {W w:World} {F:List Chunk} {b0 b1 b2 n1 n2:Nat} {c1 c2:Array Value} {E E1 E2:TypeId} (h:Sat W w ([(b0, .cells #[.slice (At b1 0) n1 n1, .slice (At b2 0) n2 n2] E (0,0))]::[(b1, .cells c1 E1 (0,0))]::[(b2, .cells c2 E2 (0,0))]::F)) (l1 l2:List Int) (hi:Nat) (hh:hi<=2)
  (h1:c1.toList=l1.flatMap Go.E.encI:=by rfl) (h2:c2.toList=l2.flatMap Go.E.encI:=by rfl) (k1:l1.length=n1:=by rfl) (k2:l2.length=n2:=by rfl) (m1:n1<=100:=by omega) (m2:n2<=100:=by omega):
  ∃(T:Chunk) (ls:List IL),RdT encIL 1 [T] (partAddr (At b0 0) 2 0 1) (hi-0) (2-0) ls/\(∀z∈ls,IL.Ok [T] z)/\Sat W w (T::F):=by
 obtain ⟨T,ls,hR,hD,hS⟩:=il2 h l1 l2 h1 h2 k1 k2 m1 m2
 exact ⟨T,_,hR.part (lo:=0) (hi:=hi) om om,fun z hz=>hD z (List.mem_of_mem_drop (List.mem_of_mem_take hz)),hS⟩
theorem tg_within {p:Nat} {a:Option Addr} {n k:Nat} {i:Int} {xs:List Int} (hR:RdT Go.E.encI 1 [H] a n k xs) (hi:0<=i/\i<=n) (hS:Sat W w ([(p, .cells #[.slice a n k,I i] 78 (0,0))]::H::F)) (w0:Int) (h0:Int) (hw:1<=w0/\w0<=1000) (hh:1<=h0/\h0<=1000):
  Calls prog 22 #[Pt p 0,I w0,I h0] w fun e w'=>∃(r:Rct),e= .returned (.agg (encRct r).toArray)/\(rIn r w0 h0)/\∃i':Int,(0<=i'/\i'<=n)/\Sat W w' ([(p, .cells #[.slice a n k,I i'] 78 (0,0))]::H::F):=by
 have hle:=hR.le
 refine callsK 38 func22 rfl<|jCO 2 rfl<|sAlloc hS zeroValue45 fun _ _ j0=>jOO 6 rfl ?_
 have k0:=(j0.pick 1 rfl)
 refine cX call11 (tape_next (RdT.flat (hR.up 1 (by rfl))) om k0.flat1 w0 om) ?_
 rintro _ _ ⟨a0,rfl,_,_,_,l0⟩
 have m0:=l0.unflat1
 refine pu2<|cX call11 (tape_next (RdT.flat (hR.up 1 (by rfl))) om m0.flat1 h0 om) ?_
 rintro _ _ ⟨b0,rfl,_,_,_,n0⟩
 have o0:=n0.unflat1
 refine pu1<|sAlloc o0 zeroValue45 fun _ _ p0=>sTl p0 0 [I a0,I b0,I 0,I 0] sizeOf45 fun _ q0=>jOC 3 rfl<|drawF q0 [8,18,21,23] (fb 1 0 0 1<|fb 6 0 0 1<|fb 11 0 1 1<|fb 16 0 1 1<|fn) [0,3,4,5,10,13,14,15,1,2,6,7,11,12,16,17,8,9,20,18,19,21,22,23] fun _ r0=>wV 8<|wL 0<|wAdd a0 1<|wL 1<|wSub w0 a0<|wL 2<|wAdd b0 1<|wL 3<|wSub h0 b0<|wO rfl ?_
 have s0:=(r0.pick 1 rfl)
 refine cX call11 (tape_next (RdT.flat (hR.up 2 (by rfl))) om s0.flat1 (w0-a0) om) ?_
 rintro _ _ ⟨c0,rfl,_,_,_,t0⟩
 have e0:=t0.unflat1
 refine nZ e0 [1,1,1,1]<|wAdd (a0+1) c0<|wV 1<|wO rfl<|cX call11 (tape_next (RdT.flat (hR.up 2 (by rfl))) om e0.flat1 (h0-b0) om) ?_
 rintro _ _ ⟨d0,rfl,_,_,_,u0⟩
 have f0:=u0.unflat1
 exact nZ f0 [1,1,1,1]<|wAdd (b0+1) d0<|wO rfl<|tW f0 1 2 (I ((a0+1)+c0)) sizeOf3 fun _ v0=>nA<|wV 1<|wO rfl<|tW v0 1 3 (I ((b0+1)+d0)) sizeOf3 fun _ g0=>nA<|wN<|gXO g0 4 [401] rfl<|sTl g0 2 [I a0,I b0,I ((a0+1)+c0),I ((b0+1)+d0)] sizeOf45 fun _ i0=>jOR 3 rfl<|retN (vs:=[.agg #[I a0,I b0,I ((a0+1)+c0),I ((b0+1)+d0)]]) rfl (.cons (.cell _ _ _ _ kr (lvA i0 2 0 [I a0,I b0,I ((a0+1)+c0),I ((b0+1)+d0)] (isAgg45 _) (sizeOf45 _) rfl rfl rfl)) .nil)<|⟨(⟨a0,b0,((a0+1)+c0),((b0+1)+d0)⟩:Rct),rfl,(by unfold rIn;dsimp only;omega),_,om,(i0.drops [1,1])⟩
theorem l21_computes (W w:World) (H:Chunk) (F:List Chunk) (t:Option Addr) (nt kt:Nat) (xt:List Int) (part:Int) (r:Rct) (ht:RdT Go.E.encI 1 [H] t nt kt xt) (_hpart:-9223372036854775808<=part/\part<=9223372036854775807) (hS:Sat W w (H::F)):
  Calls prog 4 #[.slice t nt kt,I part, .agg (encRct r).toArray] w fun e w'=>e= .returned (.bool true)/\Sat W w' (H::F):=by
 have hlt:=ht.le
 refine callsK 121 func4 rfl ?_
 refine jCO 2 rfl ?_
 refine sBox hS (.agg (encRct r).toArray) (encRct r).toArray ?_
 intro n4 _ a8
 refine jOO 6 rfl ?_
 refine cX call7 (tape_new t nt kt a8) ?_
 rintro _ _ ⟨f1,rfl,b8⟩
 have kp:=ht.le
 refine jOC 10 rfl ?_
 refine loopF [1,5,7] (γ:=Nat×Int) (fun ⟨i,iti⟩ R=>⟨[(8,I (i:Int))],[(f1, .cells #[.slice t nt kt,I iti] 78 (0,0))]::R,6-i,i<=6/\(0<=iti/\iti<=nt)⟩) (0,0) ⟨b8,om,om⟩ ?_
 rintro ⟨i,iti⟩ ρ _ ⟨o4,hi,hiti⟩
 refine jCC 7 rfl ?_
 refine cD ((i:Int)<6) (fun c8=>?_) (fun c8=>?_)
 rotate_left
 ·refine jCO 7 rfl ?_
  refine cR call17 (l21_sane o4.flat) ?_
  intro _ d8
  refine jOR 4 rfl<|retT [.bool true] ?_
  exact ⟨rfl,(d8.drops [0,0])⟩
 refine jCO 7 rfl ?_
 refine cX call18 (tg_plane (RdT.flat (ht.up 1 (by rfl))) om o4.flat1) ?_
 rintro _ _ ⟨a0,j0,rfl,g0,e2,_,_,f8⟩
 refine sAlloc (Sat.unflat2 f8) zeroValue38 ?_
 intro i2 _ h8
 refine sTl h8 0 (encPlane a0) sizeOf38 ?_
 intro _ p4
 refine jOC 3 rfl ?_
 have q4:=(plane_sz e2.2.2.1).1;unfold sizeP at q4;simp only [Plane.v] at q4
 refine gCO p4 6 [0,0] rfl ?_
 have i8:=(p4.pick 1 rfl)
 refine cX call19 (tg_sized (RdT.flat (ht.up 3 (by rfl))) om i8.flat1 a0.w a0.h om) ?_
 rintro _ _ ⟨f0,h0,rfl,k0,j8,_,_,k8⟩
 refine sAlloc (Sat.unflat2 k8) zeroValue38 ?_
 intro j2 _ m8
 refine sTl m8 0 (encPlane f0) sizeOf38 ?_
 intro _ r4
 refine jOC 3 rfl ?_
 have s4:=(plane_sz j8.2.2.1).1;unfold sizeP at s4;simp only [Plane.v] at s4
 refine gCO r4 3 [403] rfl ?_
 refine cR call21 (r17_of a0 ⟨(RdT.flat (g0.pix.up 4 (by rfl)))⟩ r4.flat) ?_
 intro _ n8
 have zp:szP (⟨a0.w,a0.h,a0.max_⟩:Shape):=by have h:=(plane_sz e2.2.2.1).1;unfold sizeP at h;simp only [Plane.v] at h;unfold szP;dsimp only;omega
 have o8:=(n8.pick 1 rfl)
 refine cX call20 (tg_stage (RdT.flat (ht.up 5 (by rfl))) om o8.flat1 0 (⟨a0.w,a0.h,a0.max_⟩:Shape) 1 ‹_› (by unfold numB;omega)) ?_
 rintro _ _ ⟨d0,i0,rfl,c0,p8,_,_,_,q8⟩
 refine sAlloc (Sat.unflat2 q8) zeroValue53 ?_
 intro f2 _ t8
 refine sTl t8 0 (encStage d0) sizeOf53 ?_
 intro _ t4
 refine jOC 2 rfl ?_
 refine cutF t4 2 [1,5,7,8,9,10,11] (γ:=Int×Rct×Nat×Int) (fun ⟨pt8,r8,b12,it8⟩ R=>⟨[(12,Pt b12 0)],[(f1, .cells #[.slice t nt kt,I it8] 78 (0,0))]::[(b12, .cells #[I 0,I pt8,I r8.x0,I r8.y0,I r8.x1,I r8.y1,nS,I 0,I 0] 47 (0,0))]::[(f2, .cells (encStage d0).toArray 53 (0,0))]::R,0,(0<=it8/\it8<=nt)/\(0<=pt8/\pt8<3)/\rIn r8 a0.w a0.h⟩) ?_ ?_
 ·refine drawG t4 [1,7,9,10] (fb 4 5 0 1<|fb 6 5 1 1<|fn) (Plan.sts [0,2,3,5]<|Plan.sts [4]<|Plan.sts [6]<| .fk 1 9 (.fk 7 9 (Plan.sts [8]<| .ef 9<| .ef 10<| .fin) (.ef 7<|Plan.sts [8]<| .ef 10<| .fin)) (.ef 1<| .ef 7<|Plan.sts [8]<| .ef 10<| .fin)) fun _ u4=>?_
  refine qU [0,2,3,5] ?_
  refine qL 0 ?_
  refine qL 1 ?_
  refine qF ?_ ?_
  rotate_left
  ·refine qO rfl ?_
   refine sAlloc u4 zeroValue47 ?_
   intro u8 _ v4
   refine nZ v4 [6,6] ?_
   refine qO rfl ?_
   have v8:=(v4.pick 2 rfl)
   refine cX call11 (tape_next (RdT.flat (ht.up 8 (by rfl))) om v8.flat1 3 om) ?_
   rintro _ _ ⟨w4,rfl,_,_,_,w8⟩
   have x4:=w8.unflat1
   refine nZ x4 [6,6] ?_
   refine qO rfl ?_
   refine cX call22 (tg_within (RdT.flat (ht.up 8 (by rfl))) om x4.flat1 a0.w a0.h om om) ?_
   rintro _ _ ⟨z1,rfl,x8,y8,_,z8⟩
   have a9:=z8.unflat1
   refine nA ?_
   refine qU [8] ?_
   refine qO rfl ?_
   refine sTl a9 1 [I 0,I w4,I z1.x0,I z1.y0,I z1.x1,I z1.y1,nS,I 0,I 0] sizeOf47 ?_
   intro _ b9
   refine nA ?_
   refine qN<|jXI 0 rfl ?_
   exact ⟨(w4,z1,u8,y8),alB,b9,om,om,x8⟩
  refine qO rfl ?_
  have c9:=(u4.pick 1 rfl)
  refine cX call11 (tape_next (RdT.flat (ht.up 7 (by rfl))) om c9.flat1 3 om) ?_
  rintro _ _ ⟨g2,rfl,_,_,_,d9⟩
  have k2:=d9.unflat1
  refine nZ k2 [5,5] ?_
  refine qF ?_ ?_
  ·refine qO rfl ?_
   refine cX call22 (tg_within (RdT.flat (ht.up 7 (by rfl))) om k2.flat1 a0.w a0.h om om) ?_
   rintro _ _ ⟨a2,rfl,e9,f9,_,g9⟩
   have h9:=g9.unflat1
   refine nA ?_
   refine qU [8] ?_
   refine qO rfl ?_
   refine sAlloc h9 zeroValue47 ?_
   intro i9 _ j9
   refine nA ?_
   refine qO rfl ?_
   refine sTl j9 0 [I 0,I g2,I a2.x0,I a2.y0,I a2.x1,I a2.y1,nS,I 0,I 0] sizeOf47 ?_
   intro _ k9
   refine nA ?_
   refine qN<|jXI 0 rfl ?_
   exact ⟨(g2,a2,i9,f9),alB,(k9.pick 1 rfl),om,om,e9⟩
  refine qO rfl ?_
  refine sAlloc k2 zeroValue47 ?_
  intro m9 _ y4
  refine nZ y4 [6,6] ?_
  refine qO rfl ?_
  have n9:=(y4.pick 1 rfl)
  refine cX call22 (tg_within (RdT.flat (ht.up 8 (by rfl))) om n9.flat1 a0.w a0.h om om) ?_
  rintro _ _ ⟨b2,rfl,o9,p9,_,q9⟩
  have r9:=q9.unflat1
  refine nA ?_
  refine qU [8] ?_
  refine qO rfl ?_
  refine sTl r9 1 [I 0,I g2,I b2.x0,I b2.y0,I b2.x1,I b2.y1,nS,I 0,I 0] sizeOf47 ?_
  intro _ s9
  refine nA ?_
  refine qN<|jXI 0 rfl ?_
  exact ⟨(g2,b2,m9,p9),alB,s9,om,om,o9⟩
 rintro ⟨pt8,r8,b12,it8⟩ ρ _ ⟨h2,hit8,hpt8,hri8⟩
 refine cutF h2 2 [1,5,7,8,9,10,11,12] (γ:=Int) (fun pt0 R=>⟨[],[(f1, .cells #[.slice t nt kt,I it8] 78 (0,0))]::[(b12, .cells #[I 0,I pt0,I r8.x0,I r8.y0,I r8.x1,I r8.y1,nS,I 0,I 0] 47 (0,0))]::R,0,True⟩) ?_ ?_
 ·refine gCC h2 7 [2] rfl ?_
  refine cN d0.kind 4 (fun t9=>?_) (fun t9=>?_)
  ·refine jCI 1 rfl ?_
   exact ⟨pt8,alB,h2,trivial⟩
  refine jCO 2 rfl ?_
  refine tW h2 1 1 (I 0) sizeOf3 ?_
  intro _ u9
  refine jOI 1 rfl ?_
  exact ⟨0,alB,u9,trivial⟩
 rintro pt0 ρ _ ⟨z4,_⟩
 refine gCO z4 3 [406] rfl ?_
 refine cX call23 (r13_whole a0 ⟨(RdT.flat (g0.pix.up 7 (by rfl)))⟩ z4.flat) ?_
 rintro _ _ ⟨d1,_,g1,rfl,h1,_,v9⟩
 have w9:=v9.unflat1
 have hn_q_127_pix:=h1.pix.len;have hl_q_127_pix:=h1.pix.le
 refine pu3 ?_
 refine sAlloc w9 zeroValue38 ?_
 intro l2 _ x9
 refine sTl x9 0 (encPlane d1) sizeOf38 ?_
 intro _ y9
 refine jOO 5 rfl ?_
 refine sBS y9 #[I 1,I 2,I 3,I 4] runUnderlying22 sizeOf3 zeroValue3 ?_
 intro c2 _ z9
 refine pu1 ?_
 have aa:=(z9.pick 3 rfl)
 refine cX call11 (tape_next (RdT.flat (ht.up 11 (by rfl))) om aa.flat1 5 om) ?_
 rintro _ _ ⟨e1,rfl,_,a5,_,ba⟩
 refine sBS (Sat.unflat1 ba) #[I 0,I 1,I 0,I e1] runUnderlying22 sizeOf3 zeroValue3 ?_
 intro d2 _ da
 refine sBS da #[.slice (At c2 0) 4 4, .slice (At d2 0) 4 4] runUnderlying42 sizeOf22 zeroValue22 ?_
 intro i1 _ z0
 refine jOC 3 rfl ?_
 refine cutF z0 13 [1,5,7,8,9,10,11,12,13] (γ:=Stage×Plane×Plane×Plane×(Option Addr)×Nat×Nat×(List IL)×Chunk×Chunk×Chunk×Chunk×Chunk×Int×Int×Int×Int×Int×Int) (fun ⟨s1,p1,q1,o1,al,nl,kl,ls,Jc,Pc,Qc,Oc,Lc,pt1,tx0,ty0,tx1,ty1,it1⟩ R=>⟨[(15, .slice al nl kl)],[(f1, .cells #[.slice t nt kt,I it1] 78 (0,0))]::Jc::Pc::Qc::Oc::Lc::[(f2, .cells (encStage s1).toArray 53 (0,0))]::[(b12, .cells #[I 0,I pt1,I tx0,I ty0,I tx1,I ty1,nS,I 0,I 0] 47 (0,0))]::[(i2, .cells (encPlane p1).toArray 38 (0,0))]::[(j2, .cells (encPlane q1).toArray 38 (0,0))]::[(l2, .cells (encPlane o1).toArray 38 (0,0))]::R,0,(0<=it1/\it1<=nt)/\Stage.Ok [Jc] s1/\Plane.Ok [Pc] p1/\Plane.Ok [Qc] q1/\Plane.Ok [Oc] o1/\RdT encIL 1 [Lc] al nl kl ls/\(∀z∈ls,IL.Ok [Lc] z)⟩) ?_ ?_
 rotate_left
 ·rintro ⟨s1,p1,q1,o1,al,nl,kl,ls,Jc,Pc,Qc,Oc,Lc,pt1,tx0,ty0,tx1,ty1,it1⟩ ρ _ ⟨b5,hit1,hs1,hp1,hq1,ho1,hL,hLD⟩
  refine jCC 1 rfl ?_
  have hnl:=hL.len;have hll:=hL.le
  refine gCO b5 7 [1806,907,408,409,410] rfl ?_
  refine cX call14 (p21_compute s1 (⟨0,pt1,tx0,ty0,tx1,ty1,⟨none,0,0,[]⟩,0,0⟩:Task) p1 q1 o1 al nl kl ls (hs1.of_mem (mem_flat1 1 (by rfl))) ⟨(RdT.nil (enc:=Go.E.encI) (sz:=1) fR _)⟩ ⟨(RdT.flat (hp1.pix.up 2 (by rfl)))⟩ ⟨(RdT.flat (hq1.pix.up 3 (by rfl)))⟩ ⟨(RdT.flat (ho1.pix.up 4 (by rfl)))⟩ (RdT.flat (hL.up 5 (by rfl))) (fun z hz=>(hLD z hz).of_mem (mem_flat1 5 (by rfl))) b5.flat) ?_
  rintro _ _ ⟨ea,fa,ga,m2,n2,_,rfl,o2,ha,ia⟩
  have c5:=ia.unflat1
  have hn_az_832:=o2.len;have hl_az_832:=o2.le
  refine gOO c5 15 [1807,908,409,410,411] rfl ?_
  refine cX call26 (r21_compute s1 (⟨0,pt1,tx0,ty0,tx1,ty1,⟨none,0,0,[]⟩,0,0⟩:Task) p1 q1 o1 al nl kl ls (hs1.of_mem (mem_flat1 2 (by rfl))) ⟨(RdT.nil (enc:=Go.E.encI) (sz:=1) fR _)⟩ ⟨(RdT.flat (hp1.pix.up 3 (by rfl)))⟩ ⟨(RdT.flat (hq1.pix.up 4 (by rfl)))⟩ ⟨(RdT.flat (ho1.pix.up 5 (by rfl)))⟩ (RdT.flat (hL.up 6 (by rfl))) (fun z hz=>(hLD z hz).of_mem (mem_flat1 6 (by rfl))) c5.flat) ?_
  rintro _ _ ⟨ja,ka,la,p2,q2,_,rfl,r2,ma,na⟩
  have oa:=na.unflat1
  have hn_az_844:=r2.len;have hl_az_844:=r2.le
  have hs9_848:(m2,n2)=(p2,q2):=ha.trans (cmpT_if.trans ma.symm)
  have hc_hs9_848:n2=q2:=congrArg Prod.snd hs9_848
  refine jOO 11 rfl ?_
  refine cR call27 (r4_same ea fa ga m2 ja ka la p2 (RdT.flat (o2.up 1 (by rfl))) (RdT.flat (r2.up 0 (by rfl))) oa.flat) ?_
  intro _ pa
  refine pu2 ?_
  have qa:m2=p2:=(congrArg Prod.fst hs9_848)
  refine sFix 115 _ false (congrArg Bool.not (decide_eq_true qa)) ?_
  refine jOC 6 rfl ?_
  have ra:(n2:Int)=q2:=by omega
  refine cF _ (bne_eq_false_iff_eq.2 ra) ?_
  refine jCO 5 rfl ?_
  refine sAdd (i:Int) 1 ?_
  refine jOI 2 rfl ?_
  exact ⟨(i+1,it1),od,alB,(pa.drops [0,0,1,1,1,1,1,1,1,1,1,1]),om,om⟩
 refine jCC 12 rfl ?_
 refine cE (i:Int) 2 (fun ta=>?_) (fun ta=>?_)
 ·refine gCO z0 3 [1807] rfl ?_
  have ua:=(z0.pick 2 rfl)
  have va:=(ua.picks [8,1])
  refine cX call24 (tg_spoilStage (RdT.flat (ht.up 12 (by rfl))) om va.flat2 d0 ⟨c0.weights,c0.row,c0.col,c0.x,c0.xD,c0.y,c0.yD,c0.ops⟩ 0 om p8) ?_
  rintro _ _ ⟨d5,s2,rfl,wa,_,t2,_,xa⟩
  have ya:=xa.unflat3
  have za:=(ya.picks [2,2,2])
  have ab:Sat W _ ([(f1, .cells #[.slice t nt kt,I t2] 78 (0,0))]::(s2++i0)::[(i1, .cells #[.slice (At c2 0) 4 4, .slice (At d2 0) 4 4] 22 (0,0))]::[(d2, .cells #[I 0,I 1,I 0,I e1] 3 (0,0))]::[(c2, .cells #[I 1,I 2,I 3,I 4] 3 (0,0))]::[(l2, .cells (encPlane d1).toArray 38 (0,0))]::g1::[(b12, .cells #[I 0,I pt0,I r8.x0,I r8.y0,I r8.x1,I r8.y1,nS,I 0,I 0] 47 (0,0))]::[(f2, .cells (encStage d0).toArray 53 (0,0))]::[(j2, .cells (encPlane f0).toArray 38 (0,0))]::h0::[(i2, .cells (encPlane a0).toArray 38 (0,0))]::j0::[(n4, .cells (encRct r).toArray 45 (0,0))]::H::F):=Sat.perm (show Sat W _ ([(f1, .cells #[.slice t nt kt,I t2] 78 (0,0))]::s2::i0::[(i1, .cells #[.slice (At c2 0) 4 4, .slice (At d2 0) 4 4] 22 (0,0))]::[(d2, .cells #[I 0,I 1,I 0,I e1] 3 (0,0))]::[(c2, .cells #[I 1,I 2,I 3,I 4] 3 (0,0))]::[(l2, .cells (encPlane d1).toArray 38 (0,0))]::g1::[(b12, .cells #[I 0,I pt0,I r8.x0,I r8.y0,I r8.x1,I r8.y1,nS,I 0,I 0] 47 (0,0))]::[(f2, .cells (encStage d0).toArray 53 (0,0))]::[(j2, .cells (encPlane f0).toArray 38 (0,0))]::h0::[(i2, .cells (encPlane a0).toArray 38 (0,0))]::j0::[(n4, .cells (encRct r).toArray 45 (0,0))]::H::F) from za) (by simp [Value.cells])
  refine sTl ab 8 (encStage d5) sizeOf53 ?_
  intro _ e5
  refine jOI 2 rfl ?_
  dsimp only [List.set_cons_zero,List.set_cons_succ,List.eraseIdx_cons_zero,List.eraseIdx_cons_succ] at e5
  have bb:=(e5.picks [9,11,9,10,10,11,12,8,8,10,11,11])
  obtain ⟨cb,db,eb,gb,hb⟩:=il2 bb [1,2,3,4] [0,1,0,e1]
  exact ⟨(d5,a0,f0,d1,(At i1 0),2,2,db,(s2++i0),j0,h0,g1,cb,pt0,r8.x0,r8.y0,r8.x1,r8.y1,t2),alB,(hb.picks [5,5,5,5,5]),om,wa,g0,k0,h1,eb,gb⟩
 refine jCC 6 rfl ?_
 refine cE (i:Int) 3 (fun jb=>?_) (fun jb=>?_)
 ·refine drawF z0 [3,5] (fb 1 13 0 4<|fn) [0,2,1,3,4,5] fun _ kb=>?_
  refine wV 2 ?_
  refine wG 0 4 ?_
  refine wO rfl ?_
  refine tW kb 6 1 (I part) sizeOf3 ?_
  intro _ f5
  refine nZ f5 [13] ?_
  refine wV 1 ?_
  refine wO rfl ?_
  refine tW f5 6 2 (.agg (encRct r).toArray) sizeOf45 ?_
  intro _ g5
  refine nA ?_
  refine wN<|jXI 1 rfl ?_
  dsimp only [List.set_cons_zero,List.set_cons_succ,List.eraseIdx_cons_zero,List.eraseIdx_cons_succ] at g5
  have lb:=(g5.picks [9,11,8,9,9,11,12,12,10,10,11,11])
  obtain ⟨mb,nb,ob,pb,qb⟩:=il2 lb [1,2,3,4] [0,1,0,e1]
  exact ⟨(d0,a0,f0,d1,(At i1 0),2,2,nb,i0,j0,h0,g1,mb,part,r.x0,r.y0,r.x1,r.y1,a5),alB,(qb.picks [5,5,5,5,5]),om,c0,g0,k0,h1,ob,pb⟩
 refine jCC 6 rfl ?_
 refine cE (i:Int) 4 (fun sb=>?_) (fun sb=>?_)
 ·refine gCO z0 3 [411] rfl ?_
  have tb:=(z0.pick 2 rfl)
  refine cX call25 (tg_spoilPlane (RdT.flat (ht.up 13 (by rfl))) om tb.flat1 a0 ⟨(RdT.flat (g0.pix.up 11 (by rfl)))⟩ 0 om (planeB_S e2.2.2.1 e2.2.2.2)) ?_
  rintro _ _ ⟨h5,ub,rfl,vb,_,wb,_,xb⟩
  refine sTl (Sat.unflat2 xb) 12 (encPlane h5) sizeOf38 ?_
  intro _ i5
  refine jOI 2 rfl ?_
  dsimp only [List.set_cons_zero,List.set_cons_succ,List.eraseIdx_cons_zero,List.eraseIdx_cons_succ] at i5
  have zb:=((i5.picks [10,12,9,10,10,12,7,12,8,10,11,11]).dropAt 13 rfl)
  obtain ⟨ac,bc,cc,dc,ec⟩:=il2 zb [1,2,3,4] [0,1,0,e1]
  exact ⟨(d0,h5,f0,d1,(At i1 0),2,2,bc,i0,ub,h0,g1,ac,pt0,r8.x0,r8.y0,r8.x1,r8.y1,wb),alB,(ec.picks [5,5,5,5,5]),om,c0,vb,k0,h1,cc,dc⟩
 refine jCC 6 rfl ?_
 refine cE (i:Int) 5 (fun gc=>?_) (fun gc=>?_)
 rotate_left
 ·refine jCI 2 rfl ?_
  dsimp only [List.set_cons_zero,List.set_cons_succ,List.eraseIdx_cons_zero,List.eraseIdx_cons_succ] at z0
  have hc:=(z0.picks [9,11,8,9,9,11,12,12,10,10,11,11])
  obtain ⟨ic,jc,kc,lc,mc⟩:=il2 hc [1,2,3,4] [0,1,0,e1]
  exact ⟨(d0,a0,f0,d1,(At i1 0),2,2,jc,i0,j0,h0,g1,ic,pt0,r8.x0,r8.y0,r8.x1,r8.y1,a5),alB,(mc.picks [5,5,5,5,5]),om,c0,g0,k0,h1,kc,lc⟩
 refine drawG z0 [1,2,4,5,6,8,11] (fn) (Plan.sts [0,3,7]<| .fk 1 2 (.fk 2 4 (.ef 4<| .fk 5 8 (.fk 6 8 (.ef 8<|Plan.sts [9]<|Plan.sts [10]<| .ef 11<|Plan.sts [12]<| .fin) (Plan.sts [9]<| .fk 6 11 (Plan.sts [10]<| .ef 11<|Plan.sts [12]<| .fin) (.ef 6<|Plan.sts [10]<|Plan.sts [12]<| .fin))) (Plan.sts [9]<| .fk 5 11 (.fk 6 11 (Plan.sts [10]<| .ef 11<|Plan.sts [12]<| .fin) (.ef 6<|Plan.sts [10]<|Plan.sts [12]<| .fin)) (.ef 5<| .ef 6<|Plan.sts [10]<|Plan.sts [12]<| .fin))) (.f3 2 5 8 (.fk 5 8 (.fk 6 8 (.ef 8<|Plan.sts [9]<|Plan.sts [10]<| .ef 11<|Plan.sts [12]<| .fin) (Plan.sts [9]<| .fk 6 11 (Plan.sts [10]<| .ef 11<|Plan.sts [12]<| .fin) (.ef 6<|Plan.sts [10]<|Plan.sts [12]<| .fin))) (Plan.sts [9]<| .fk 5 11 (.fk 6 11 (Plan.sts [10]<| .ef 11<|Plan.sts [12]<| .fin) (.ef 6<|Plan.sts [10]<|Plan.sts [12]<| .fin)) (.ef 5<| .ef 6<|Plan.sts [10]<|Plan.sts [12]<| .fin))) (.fk 2 8 (.fk 6 8 (.ef 8<|Plan.sts [9]<|Plan.sts [10]<| .ef 11<|Plan.sts [12]<| .fin) (Plan.sts [9]<| .fk 6 11 (Plan.sts [10]<| .ef 11<|Plan.sts [12]<| .fin) (.ef 6<|Plan.sts [10]<|Plan.sts [12]<| .fin))) (Plan.sts [9]<| .fk 2 11 (.fk 6 11 (Plan.sts [10]<| .ef 11<|Plan.sts [12]<| .fin) (.ef 6<|Plan.sts [10]<|Plan.sts [12]<| .fin)) (.ef 2<| .ef 6<|Plan.sts [10]<|Plan.sts [12]<| .fin))) (Plan.sts [9]<| .f3 2 5 11 (.fk 5 11 (.fk 6 11 (Plan.sts [10]<| .ef 11<|Plan.sts [12]<| .fin) (.ef 6<|Plan.sts [10]<|Plan.sts [12]<| .fin)) (.ef 5<| .ef 6<|Plan.sts [10]<|Plan.sts [12]<| .fin)) (.fk 2 11 (.fk 6 11 (Plan.sts [10]<| .ef 11<|Plan.sts [12]<| .fin) (.ef 6<|Plan.sts [10]<|Plan.sts [12]<| .fin)) (.ef 2<| .ef 6<|Plan.sts [10]<|Plan.sts [12]<| .fin)) (.fk 2 5 (.ef 5<| .ef 6<|Plan.sts [10]<|Plan.sts [12]<| .fin) (.ef 2<| .ef 6<|Plan.sts [10]<|Plan.sts [12]<| .fin))))) (.ef 1<| .ef 4<| .fk 5 8 (.fk 6 8 (.ef 8<|Plan.sts [9]<|Plan.sts [10]<| .ef 11<|Plan.sts [12]<| .fin) (Plan.sts [9]<| .fk 6 11 (Plan.sts [10]<| .ef 11<|Plan.sts [12]<| .fin) (.ef 6<|Plan.sts [10]<|Plan.sts [12]<| .fin))) (Plan.sts [9]<| .fk 5 11 (.fk 6 11 (Plan.sts [10]<| .ef 11<|Plan.sts [12]<| .fin) (.ef 6<|Plan.sts [10]<|Plan.sts [12]<| .fin)) (.ef 5<| .ef 6<|Plan.sts [10]<|Plan.sts [12]<| .fin)))) fun _ j5=>?_
 refine qU [0,3,7] ?_
 refine qF ?_ ?_
 rotate_left
 ·refine qO rfl ?_
  refine sBS j5 #[I 1] runUnderlying22 sizeOf3 zeroValue3 ?_
  intro j1 _ oc
  refine nA ?_
  refine qO rfl ?_
  have pc:=(oc.pick 3 rfl)
  refine cX call18 (tg_plane (RdT.flat (ht.up 14 (by rfl))) om pc.flat1) ?_
  rintro _ _ ⟨s0,k1,rfl,l1,_,_,_,qc⟩
  have rc:=qc.unflat2
  refine nA ?_
  refine qO rfl ?_
  refine cX call11 (tape_next (RdT.flat (ht.up 15 (by rfl))) om rc.flat1 9 om) ?_
  rintro _ _ ⟨a1,rfl,_,_,_,sc⟩
  have k5:=sc.unflat1
  refine nA ?_
  refine qF ?_ ?_
  rotate_left
  ·refine qO rfl ?_
   refine cX call11 (tape_next (RdT.flat (ht.up 15 (by rfl))) om k5.flat1 2 om) ?_
   rintro _ _ ⟨o0,rfl,_,u2,_,tc⟩
   have l5:=tc.unflat1
   refine nA ?_
   refine qAdd 1 o0 ?_
   refine qF ?_ ?_
   rotate_left
   ·refine qO rfl ?_
    refine sTl l5 6 (encPlane s0) sizeOf38 ?_
    intro _ uc
    refine nA ?_
    refine qO rfl ?_
    refine sBS uc #[I a1,I 2] runUnderlying22 sizeOf3 zeroValue3 ?_
    intro vc _ wc
    refine nA ?_
    refine qO rfl ?_
    refine sBS wc #[.slice (At j1 0) 1 1, .slice (At vc 0) 2 2] runUnderlying42 sizeOf22 zeroValue22 ?_
    intro v2 _ m5
    refine nA ?_
    refine qY (.slice (partAddr (At v2 0) 2 0 1) (((1+o0)).toNat-0) (2-0)) rfl (fun w _=>Y_sl (a:=(At v2 0)) (len:=2) (cap:=2) none (some (1+o0)) 0 (((1+o0)).toNat) runUnderlying42 sizeOf22 rfl ⟨om,om⟩ om om) ?_
    refine qU [12] ?_
    refine qN<|jXI 1 rfl ?_
    dsimp only [List.set_cons_zero,List.set_cons_succ,List.eraseIdx_cons_zero,List.eraseIdx_cons_succ] at m5
    have xc:=((m5.picks [13,15,12,13,7,15,16,16,10,10,11,11]).drops [12,12,12,13])
    obtain ⟨yc,zc,ad,bd,cd⟩:=il2p xc [1] [a1,2] (((1+o0)).toNat) om
    exact ⟨(d0,a0,f0,s0,(partAddr (At v2 0) 2 0 1),(((1+o0)).toNat-0),(2-0),zc,i0,j0,h0,k1,yc,pt0,r8.x0,r8.y0,r8.x1,r8.y1,u2),alB,(cd.picks [5,5,5,5,5]),om,c0,g0,k0,l1,ad,bd⟩
   refine qO rfl ?_
   refine sBS l5 #[I a1,I 2] runUnderlying22 sizeOf3 zeroValue3 ?_
   intro n5 _ o5
   refine nA ?_
   refine qF ?_ ?_
   rotate_left
   ·refine qO rfl ?_
    refine sTl o5 7 (encPlane s0) sizeOf38 ?_
    intro _ ed
    refine nA ?_
    refine qO rfl ?_
    refine sBS ed #[.slice (At j1 0) 1 1, .slice (At n5 0) 2 2] runUnderlying42 sizeOf22 zeroValue22 ?_
    intro w2 _ p5
    refine nA ?_
    refine qY (.slice (partAddr (At w2 0) 2 0 1) (((1+o0)).toNat-0) (2-0)) rfl (fun w _=>Y_sl (a:=(At w2 0)) (len:=2) (cap:=2) none (some (1+o0)) 0 (((1+o0)).toNat) runUnderlying42 sizeOf22 rfl ⟨om,om⟩ om om) ?_
    refine qU [12] ?_
    refine qN<|jXI 1 rfl ?_
    dsimp only [List.set_cons_zero,List.set_cons_succ,List.eraseIdx_cons_zero,List.eraseIdx_cons_succ] at p5
    have fd:=((p5.picks [13,15,12,13,7,15,16,16,10,10,11,11]).drops [12,12,12,13])
    obtain ⟨gd,hd,jd,kd,ld⟩:=il2p fd [1] [a1,2] (((1+o0)).toNat) om
    exact ⟨(d0,a0,f0,s0,(partAddr (At w2 0) 2 0 1),(((1+o0)).toNat-0),(2-0),hd,i0,j0,h0,k1,gd,pt0,r8.x0,r8.y0,r8.x1,r8.y1,u2),alB,(ld.picks [5,5,5,5,5]),om,c0,g0,k0,l1,jd,kd⟩
   refine qO rfl ?_
   refine sBS o5 #[.slice (At j1 0) 1 1, .slice (At n5 0) 2 2] runUnderlying42 sizeOf22 zeroValue22 ?_
   intro x2 _ nd
   refine nA ?_
   refine qY (.slice (partAddr (At x2 0) 2 0 1) (((1+o0)).toNat-0) (2-0)) rfl (fun w _=>Y_sl (a:=(At x2 0)) (len:=2) (cap:=2) none (some (1+o0)) 0 (((1+o0)).toNat) runUnderlying42 sizeOf22 rfl ⟨om,om⟩ om om) ?_
   refine qO rfl ?_
   refine sTl nd 8 (encPlane s0) sizeOf38 ?_
   intro _ q5
   refine nA ?_
   refine qU [12] ?_
   refine qN<|jXI 1 rfl ?_
   dsimp only [List.set_cons_zero,List.set_cons_succ,List.eraseIdx_cons_zero,List.eraseIdx_cons_succ] at q5
   have pd:=((q5.picks [13,15,12,13,7,15,16,16,10,10,11,11]).drops [12,12,12,13])
   obtain ⟨qd,rd,sd,td,ud⟩:=il2p pd [1] [a1,2] (((1+o0)).toNat) om
   exact ⟨(d0,a0,f0,s0,(partAddr (At x2 0) 2 0 1),(((1+o0)).toNat-0),(2-0),rd,i0,j0,h0,k1,qd,pt0,r8.x0,r8.y0,r8.x1,r8.y1,u2),alB,(ud.picks [5,5,5,5,5]),om,c0,g0,k0,l1,sd,td⟩
  refine qO rfl ?_
  refine sBS k5 #[I a1,I 2] runUnderlying22 sizeOf3 zeroValue3 ?_
  intro y2 _ r5
  refine nA ?_
  refine qF ?_ ?_
  ·refine qO rfl ?_
   refine sBS r5 #[.slice (At j1 0) 1 1, .slice (At y2 0) 2 2] runUnderlying42 sizeOf22 zeroValue22 ?_
   intro z2 _ wd
   refine nA ?_
   refine qO rfl ?_
   have xd:=(wd.pick 2 rfl)
   refine cX call11 (tape_next (RdT.flat (ht.up 17 (by rfl))) om xd.flat1 2 om) ?_
   rintro _ _ ⟨m1,rfl,_,yd,_,zd⟩
   have ae:=zd.unflat1
   refine nA ?_
   refine qAdd 1 m1 ?_
   refine qY (.slice (partAddr (At z2 0) 2 0 1) (((1+m1)).toNat-0) (2-0)) rfl (fun w _=>Y_sl (a:=(At z2 0)) (len:=2) (cap:=2) none (some (1+m1)) 0 (((1+m1)).toNat) runUnderlying42 sizeOf22 rfl ⟨om,om⟩ om om) ?_
   refine qO rfl ?_
   refine sTl ae 8 (encPlane s0) sizeOf38 ?_
   intro _ s5
   refine nA ?_
   refine qU [12] ?_
   refine qN<|jXI 1 rfl ?_
   dsimp only [List.set_cons_zero,List.set_cons_succ,List.eraseIdx_cons_zero,List.eraseIdx_cons_succ] at s5
   have be:=((s5.picks [13,15,12,13,7,15,16,16,8,10,11,11]).drops [12,12,12,13])
   obtain ⟨ce,de,ee,fe,ge⟩:=il2p be [1] [a1,2] (((1+m1)).toNat) om
   exact ⟨(d0,a0,f0,s0,(partAddr (At z2 0) 2 0 1),(((1+m1)).toNat-0),(2-0),de,i0,j0,h0,k1,ce,pt0,r8.x0,r8.y0,r8.x1,r8.y1,yd),alB,(ge.picks [5,5,5,5,5]),om,c0,g0,k0,l1,ee,fe⟩
  refine qO rfl ?_
  have ie:=(r5.pick 1 rfl)
  refine cX call11 (tape_next (RdT.flat (ht.up 16 (by rfl))) om ie.flat1 2 om) ?_
  rintro _ _ ⟨t0,rfl,_,t5,_,je⟩
  have u5:=je.unflat1
  refine nA ?_
  refine qAdd 1 t0 ?_
  refine qF ?_ ?_
  rotate_left
  ·refine qO rfl ?_
   refine sTl u5 7 (encPlane s0) sizeOf38 ?_
   intro _ ke
   refine nA ?_
   refine qO rfl ?_
   refine sBS ke #[.slice (At j1 0) 1 1, .slice (At y2 0) 2 2] runUnderlying42 sizeOf22 zeroValue22 ?_
   intro a3 _ v5
   refine nA ?_
   refine qY (.slice (partAddr (At a3 0) 2 0 1) (((1+t0)).toNat-0) (2-0)) rfl (fun w _=>Y_sl (a:=(At a3 0)) (len:=2) (cap:=2) none (some (1+t0)) 0 (((1+t0)).toNat) runUnderlying42 sizeOf22 rfl ⟨om,om⟩ om om) ?_
   refine qU [12] ?_
   refine qN<|jXI 1 rfl ?_
   dsimp only [List.set_cons_zero,List.set_cons_succ,List.eraseIdx_cons_zero,List.eraseIdx_cons_succ] at v5
   have me:=((v5.picks [13,15,12,13,7,15,16,16,9,10,11,11]).drops [12,12,12,13])
   obtain ⟨ne,oe,pe,qe,re⟩:=il2p me [1] [a1,2] (((1+t0)).toNat) om
   exact ⟨(d0,a0,f0,s0,(partAddr (At a3 0) 2 0 1),(((1+t0)).toNat-0),(2-0),oe,i0,j0,h0,k1,ne,pt0,r8.x0,r8.y0,r8.x1,r8.y1,t5),alB,(re.picks [5,5,5,5,5]),om,c0,g0,k0,l1,pe,qe⟩
  refine qO rfl ?_
  refine sBS u5 #[.slice (At j1 0) 1 1, .slice (At y2 0) 2 2] runUnderlying42 sizeOf22 zeroValue22 ?_
  intro b3 _ te
  refine nA ?_
  refine qY (.slice (partAddr (At b3 0) 2 0 1) (((1+t0)).toNat-0) (2-0)) rfl (fun w _=>Y_sl (a:=(At b3 0)) (len:=2) (cap:=2) none (some (1+t0)) 0 (((1+t0)).toNat) runUnderlying42 sizeOf22 rfl ⟨om,om⟩ om om) ?_
  refine qO rfl ?_
  refine sTl te 8 (encPlane s0) sizeOf38 ?_
  intro _ w5
  refine nA ?_
  refine qU [12] ?_
  refine qN<|jXI 1 rfl ?_
  dsimp only [List.set_cons_zero,List.set_cons_succ,List.eraseIdx_cons_zero,List.eraseIdx_cons_succ] at w5
  have ue:=((w5.picks [13,15,12,13,7,15,16,16,9,10,11,11]).drops [12,12,12,13])
  obtain ⟨ve,we,xe,ye,ze⟩:=il2p ue [1] [a1,2] (((1+t0)).toNat) om
  exact ⟨(d0,a0,f0,s0,(partAddr (At b3 0) 2 0 1),(((1+t0)).toNat-0),(2-0),we,i0,j0,h0,k1,ve,pt0,r8.x0,r8.y0,r8.x1,r8.y1,t5),alB,(ze.picks [5,5,5,5,5]),om,c0,g0,k0,l1,xe,ye⟩
 refine qO rfl ?_
 have bf:=(j5.pick 2 rfl)
 refine cX call18 (tg_plane (RdT.flat (ht.up 13 (by rfl))) om bf.flat1) ?_
 rintro _ _ ⟨b0,m0,rfl,n0,_,_,_,cf⟩
 have x5:=cf.unflat2
 refine nA ?_
 refine qF ?_ ?_
 ·refine qO rfl ?_
  refine sBS x5 #[I 1] runUnderlying22 sizeOf3 zeroValue3 ?_
  intro n1 _ df
  refine nA ?_
  refine qO rfl ?_
  have ff:=(df.pick 1 rfl)
  refine cX call11 (tape_next (RdT.flat (ht.up 15 (by rfl))) om ff.flat1 9 om) ?_
  rintro _ _ ⟨b1,rfl,_,_,_,gf⟩
  have y5:=gf.unflat1
  refine nA ?_
  refine qF ?_ ?_
  rotate_left
  ·refine qO rfl ?_
   refine cX call11 (tape_next (RdT.flat (ht.up 15 (by rfl))) om y5.flat1 2 om) ?_
   rintro _ _ ⟨p0,rfl,_,c3,_,hf⟩
   have z5:=hf.unflat1
   refine nA ?_
   refine qAdd 1 p0 ?_
   refine qF ?_ ?_
   rotate_left
   ·refine qO rfl ?_
    refine sTl z5 6 (encPlane b0) sizeOf38 ?_
    intro _ jf
    refine nA ?_
    refine qO rfl ?_
    refine sBS jf #[I b1,I 2] runUnderlying22 sizeOf3 zeroValue3 ?_
    intro kf _ lf
    refine nA ?_
    refine qO rfl ?_
    refine sBS lf #[.slice (At n1 0) 1 1, .slice (At kf 0) 2 2] runUnderlying42 sizeOf22 zeroValue22 ?_
    intro d3 _ a6
    refine nA ?_
    refine qY (.slice (partAddr (At d3 0) 2 0 1) (((1+p0)).toNat-0) (2-0)) rfl (fun w _=>Y_sl (a:=(At d3 0)) (len:=2) (cap:=2) none (some (1+p0)) 0 (((1+p0)).toNat) runUnderlying42 sizeOf22 rfl ⟨om,om⟩ om om) ?_
    refine qU [12] ?_
    refine qN<|jXI 1 rfl ?_
    dsimp only [List.set_cons_zero,List.set_cons_succ,List.eraseIdx_cons_zero,List.eraseIdx_cons_succ] at a6
    have mf:=((a6.picks [13,15,12,13,8,15,16,16,10,10,11,11]).drops [12,12,12,13])
    obtain ⟨nf,pf,qf,rf,sf⟩:=il2p mf [1] [b1,2] (((1+p0)).toNat) om
    exact ⟨(d0,a0,f0,b0,(partAddr (At d3 0) 2 0 1),(((1+p0)).toNat-0),(2-0),pf,i0,j0,h0,m0,nf,pt0,r8.x0,r8.y0,r8.x1,r8.y1,c3),alB,(sf.picks [5,5,5,5,5]),om,c0,g0,k0,n0,qf,rf⟩
   refine qO rfl ?_
   refine sBS z5 #[I b1,I 2] runUnderlying22 sizeOf3 zeroValue3 ?_
   intro b6 _ c6
   refine nA ?_
   refine qF ?_ ?_
   rotate_left
   ·refine qO rfl ?_
    refine sTl c6 7 (encPlane b0) sizeOf38 ?_
    intro _ uf
    refine nA ?_
    refine qO rfl ?_
    refine sBS uf #[.slice (At n1 0) 1 1, .slice (At b6 0) 2 2] runUnderlying42 sizeOf22 zeroValue22 ?_
    intro e3 _ d6
    refine nA ?_
    refine qY (.slice (partAddr (At e3 0) 2 0 1) (((1+p0)).toNat-0) (2-0)) rfl (fun w _=>Y_sl (a:=(At e3 0)) (len:=2) (cap:=2) none (some (1+p0)) 0 (((1+p0)).toNat) runUnderlying42 sizeOf22 rfl ⟨om,om⟩ om om) ?_
    refine qU [12] ?_
    refine qN<|jXI 1 rfl ?_
    dsimp only [List.set_cons_zero,List.set_cons_succ,List.eraseIdx_cons_zero,List.eraseIdx_cons_succ] at d6
    have vf:=((d6.picks [13,15,12,13,8,15,16,16,10,10,11,11]).drops [12,12,12,13])
    obtain ⟨wf,xf,yf,zf,ag⟩:=il2p vf [1] [b1,2] (((1+p0)).toNat) om
    exact ⟨(d0,a0,f0,b0,(partAddr (At e3 0) 2 0 1),(((1+p0)).toNat-0),(2-0),xf,i0,j0,h0,m0,wf,pt0,r8.x0,r8.y0,r8.x1,r8.y1,c3),alB,(ag.picks [5,5,5,5,5]),om,c0,g0,k0,n0,yf,zf⟩
   refine qO rfl ?_
   refine sBS c6 #[.slice (At n1 0) 1 1, .slice (At b6 0) 2 2] runUnderlying42 sizeOf22 zeroValue22 ?_
   intro g3 _ cg
   refine nA ?_
   refine qY (.slice (partAddr (At g3 0) 2 0 1) (((1+p0)).toNat-0) (2-0)) rfl (fun w _=>Y_sl (a:=(At g3 0)) (len:=2) (cap:=2) none (some (1+p0)) 0 (((1+p0)).toNat) runUnderlying42 sizeOf22 rfl ⟨om,om⟩ om om) ?_
   refine qO rfl ?_
   refine sTl cg 8 (encPlane b0) sizeOf38 ?_
   intro _ e6
   refine nA ?_
   refine qU [12] ?_
   refine qN<|jXI 1 rfl ?_
   dsimp only [List.set_cons_zero,List.set_cons_succ,List.eraseIdx_cons_zero,List.eraseIdx_cons_succ] at e6
   have dg:=((e6.picks [13,15,12,13,8,15,16,16,10,10,11,11]).drops [12,12,12,13])
   obtain ⟨eg,fg,gg,hg,ig⟩:=il2p dg [1] [b1,2] (((1+p0)).toNat) om
   exact ⟨(d0,a0,f0,b0,(partAddr (At g3 0) 2 0 1),(((1+p0)).toNat-0),(2-0),fg,i0,j0,h0,m0,eg,pt0,r8.x0,r8.y0,r8.x1,r8.y1,c3),alB,(ig.picks [5,5,5,5,5]),om,c0,g0,k0,n0,gg,hg⟩
  refine qO rfl ?_
  refine sBS y5 #[I b1,I 2] runUnderlying22 sizeOf3 zeroValue3 ?_
  intro h3 _ f6
  refine nA ?_
  refine qF ?_ ?_
  ·refine qO rfl ?_
   refine sBS f6 #[.slice (At n1 0) 1 1, .slice (At h3 0) 2 2] runUnderlying42 sizeOf22 zeroValue22 ?_
   intro i3 _ kg
   refine nA ?_
   refine qO rfl ?_
   have lg:=(kg.pick 2 rfl)
   refine cX call11 (tape_next (RdT.flat (ht.up 17 (by rfl))) om lg.flat1 2 om) ?_
   rintro _ _ ⟨r1,rfl,_,mg,_,ng⟩
   have og:=ng.unflat1
   refine nA ?_
   refine qAdd 1 r1 ?_
   refine qY (.slice (partAddr (At i3 0) 2 0 1) (((1+r1)).toNat-0) (2-0)) rfl (fun w _=>Y_sl (a:=(At i3 0)) (len:=2) (cap:=2) none (some (1+r1)) 0 (((1+r1)).toNat) runUnderlying42 sizeOf22 rfl ⟨om,om⟩ om om) ?_
   refine qO rfl ?_
   refine sTl og 8 (encPlane b0) sizeOf38 ?_
   intro _ g6
   refine nA ?_
   refine qU [12] ?_
   refine qN<|jXI 1 rfl ?_
   dsimp only [List.set_cons_zero,List.set_cons_succ,List.eraseIdx_cons_zero,List.eraseIdx_cons_succ] at g6
   have pg:=((g6.picks [13,15,12,13,8,15,16,16,8,10,11,11]).drops [12,12,12,13])
   obtain ⟨qg,rg,sg,tg,ug⟩:=il2p pg [1] [b1,2] (((1+r1)).toNat) om
   exact ⟨(d0,a0,f0,b0,(partAddr (At i3 0) 2 0 1),(((1+r1)).toNat-0),(2-0),rg,i0,j0,h0,m0,qg,pt0,r8.x0,r8.y0,r8.x1,r8.y1,mg),alB,(ug.picks [5,5,5,5,5]),om,c0,g0,k0,n0,sg,tg⟩
  refine qO rfl ?_
  have wg:=(f6.pick 1 rfl)
  refine cX call11 (tape_next (RdT.flat (ht.up 16 (by rfl))) om wg.flat1 2 om) ?_
  rintro _ _ ⟨u0,rfl,_,h6,_,xg⟩
  have i6:=xg.unflat1
  refine nA ?_
  refine qAdd 1 u0 ?_
  refine qF ?_ ?_
  rotate_left
  ·refine qO rfl ?_
   refine sTl i6 7 (encPlane b0) sizeOf38 ?_
   intro _ yg
   refine nA ?_
   refine qO rfl ?_
   refine sBS yg #[.slice (At n1 0) 1 1, .slice (At h3 0) 2 2] runUnderlying42 sizeOf22 zeroValue22 ?_
   intro j3 _ j6
   refine nA ?_
   refine qY (.slice (partAddr (At j3 0) 2 0 1) (((1+u0)).toNat-0) (2-0)) rfl (fun w _=>Y_sl (a:=(At j3 0)) (len:=2) (cap:=2) none (some (1+u0)) 0 (((1+u0)).toNat) runUnderlying42 sizeOf22 rfl ⟨om,om⟩ om om) ?_
   refine qU [12] ?_
   refine qN<|jXI 1 rfl ?_
   dsimp only [List.set_cons_zero,List.set_cons_succ,List.eraseIdx_cons_zero,List.eraseIdx_cons_succ] at j6
   have zg:=((j6.picks [13,15,12,13,8,15,16,16,9,10,11,11]).drops [12,12,12,13])
   obtain ⟨ah,bh,ch,dh,eh⟩:=il2p zg [1] [b1,2] (((1+u0)).toNat) om
   exact ⟨(d0,a0,f0,b0,(partAddr (At j3 0) 2 0 1),(((1+u0)).toNat-0),(2-0),bh,i0,j0,h0,m0,ah,pt0,r8.x0,r8.y0,r8.x1,r8.y1,h6),alB,(eh.picks [5,5,5,5,5]),om,c0,g0,k0,n0,ch,dh⟩
  refine qO rfl ?_
  refine sBS i6 #[.slice (At n1 0) 1 1, .slice (At h3 0) 2 2] runUnderlying42 sizeOf22 zeroValue22 ?_
  intro k3 _ gh
  refine nA ?_
  refine qY (.slice (partAddr (At k3 0) 2 0 1) (((1+u0)).toNat-0) (2-0)) rfl (fun w _=>Y_sl (a:=(At k3 0)) (len:=2) (cap:=2) none (some (1+u0)) 0 (((1+u0)).toNat) runUnderlying42 sizeOf22 rfl ⟨om,om⟩ om om) ?_
  refine qO rfl ?_
  refine sTl gh 8 (encPlane b0) sizeOf38 ?_
  intro _ k6
  refine nA ?_
  refine qU [12] ?_
  refine qN<|jXI 1 rfl ?_
  dsimp only [List.set_cons_zero,List.set_cons_succ,List.eraseIdx_cons_zero,List.eraseIdx_cons_succ] at k6
  have hh:=((k6.picks [13,15,12,13,8,15,16,16,9,10,11,11]).drops [12,12,12,13])
  obtain ⟨ih,jh,kh,lh,mh⟩:=il2p hh [1] [b1,2] (((1+u0)).toNat) om
  exact ⟨(d0,a0,f0,b0,(partAddr (At k3 0) 2 0 1),(((1+u0)).toNat-0),(2-0),jh,i0,j0,h0,m0,ih,pt0,r8.x0,r8.y0,r8.x1,r8.y1,h6),alB,(mh.picks [5,5,5,5,5]),om,c0,g0,k0,n0,kh,lh⟩
 refine qO rfl ?_
 refine cX call11 (tape_next (RdT.flat (ht.up 14 (by rfl))) om x5.flat1 9 om) ?_
 rintro _ _ ⟨l0,rfl,_,_,_,oh⟩
 have l3:=oh.unflat1
 refine nA ?_
 refine qF3 ?_ ?_ ?_
 ·refine qO rfl ?_
  refine sBS l3 #[I 1] runUnderlying22 sizeOf3 zeroValue3 ?_
  intro t1 _ l6
  refine nA ?_
  refine qF ?_ ?_
  rotate_left
  ·refine qO rfl ?_
   have ph:=(l6.pick 1 rfl)
   refine cX call11 (tape_next (RdT.flat (ht.up 15 (by rfl))) om ph.flat1 2 om) ?_
   rintro _ _ ⟨q0,rfl,_,m3,_,qh⟩
   have m6:=qh.unflat1
   refine nA ?_
   refine qAdd 1 q0 ?_
   refine qF ?_ ?_
   rotate_left
   ·refine qO rfl ?_
    refine sTl m6 6 (encPlane b0) sizeOf38 ?_
    intro _ rh
    refine nA ?_
    refine qO rfl ?_
    refine sBS rh #[I l0,I 2] runUnderlying22 sizeOf3 zeroValue3 ?_
    intro sh _ th
    refine nA ?_
    refine qO rfl ?_
    refine sBS th #[.slice (At t1 0) 1 1, .slice (At sh 0) 2 2] runUnderlying42 sizeOf22 zeroValue22 ?_
    intro n3 _ n6
    refine nA ?_
    refine qY (.slice (partAddr (At n3 0) 2 0 1) (((1+q0)).toNat-0) (2-0)) rfl (fun w _=>Y_sl (a:=(At n3 0)) (len:=2) (cap:=2) none (some (1+q0)) 0 (((1+q0)).toNat) runUnderlying42 sizeOf22 rfl ⟨om,om⟩ om om) ?_
    refine qU [12] ?_
    refine qN<|jXI 1 rfl ?_
    dsimp only [List.set_cons_zero,List.set_cons_succ,List.eraseIdx_cons_zero,List.eraseIdx_cons_succ] at n6
    have uh:=((n6.picks [13,15,12,13,8,15,16,16,10,10,11,11]).drops [12,12,12,13])
    obtain ⟨vh,wh,xh,yh,zh⟩:=il2p uh [1] [l0,2] (((1+q0)).toNat) om
    exact ⟨(d0,a0,f0,b0,(partAddr (At n3 0) 2 0 1),(((1+q0)).toNat-0),(2-0),wh,i0,j0,h0,m0,vh,pt0,r8.x0,r8.y0,r8.x1,r8.y1,m3),alB,(zh.picks [5,5,5,5,5]),om,c0,g0,k0,n0,xh,yh⟩
   refine qO rfl ?_
   refine sBS m6 #[I l0,I 2] runUnderlying22 sizeOf3 zeroValue3 ?_
   intro o6 _ p6
   refine nA ?_
   refine qF ?_ ?_
   rotate_left
   ·refine qO rfl ?_
    refine sTl p6 7 (encPlane b0) sizeOf38 ?_
    intro _ bi
    refine nA ?_
    refine qO rfl ?_
    refine sBS bi #[.slice (At t1 0) 1 1, .slice (At o6 0) 2 2] runUnderlying42 sizeOf22 zeroValue22 ?_
    intro o3 _ q6
    refine nA ?_
    refine qY (.slice (partAddr (At o3 0) 2 0 1) (((1+q0)).toNat-0) (2-0)) rfl (fun w _=>Y_sl (a:=(At o3 0)) (len:=2) (cap:=2) none (some (1+q0)) 0 (((1+q0)).toNat) runUnderlying42 sizeOf22 rfl ⟨om,om⟩ om om) ?_
    refine qU [12] ?_
    refine qN<|jXI 1 rfl ?_
    dsimp only [List.set_cons_zero,List.set_cons_succ,List.eraseIdx_cons_zero,List.eraseIdx_cons_succ] at q6
    have ci:=((q6.picks [13,15,12,13,8,15,16,16,10,10,11,11]).drops [12,12,12,13])
    obtain ⟨di,ei,fi,gi,ii⟩:=il2p ci [1] [l0,2] (((1+q0)).toNat) om
    exact ⟨(d0,a0,f0,b0,(partAddr (At o3 0) 2 0 1),(((1+q0)).toNat-0),(2-0),ei,i0,j0,h0,m0,di,pt0,r8.x0,r8.y0,r8.x1,r8.y1,m3),alB,(ii.picks [5,5,5,5,5]),om,c0,g0,k0,n0,fi,gi⟩
   refine qO rfl ?_
   refine sBS p6 #[.slice (At t1 0) 1 1, .slice (At o6 0) 2 2] runUnderlying42 sizeOf22 zeroValue22 ?_
   intro p3 _ ki
   refine nA ?_
   refine qY (.slice (partAddr (At p3 0) 2 0 1) (((1+q0)).toNat-0) (2-0)) rfl (fun w _=>Y_sl (a:=(At p3 0)) (len:=2) (cap:=2) none (some (1+q0)) 0 (((1+q0)).toNat) runUnderlying42 sizeOf22 rfl ⟨om,om⟩ om om) ?_
   refine qO rfl ?_
   refine sTl ki 8 (encPlane b0) sizeOf38 ?_
   intro _ r6
   refine nA ?_
   refine qU [12] ?_
   refine qN<|jXI 1 rfl ?_
   dsimp only [List.set_cons_zero,List.set_cons_succ,List.eraseIdx_cons_zero,List.eraseIdx_cons_succ] at r6
   have li:=((r6.picks [13,15,12,13,8,15,16,16,10,10,11,11]).drops [12,12,12,13])
   obtain ⟨mi,ni,oi,pi,qi⟩:=il2p li [1] [l0,2] (((1+q0)).toNat) om
   exact ⟨(d0,a0,f0,b0,(partAddr (At p3 0) 2 0 1),(((1+q0)).toNat-0),(2-0),ni,i0,j0,h0,m0,mi,pt0,r8.x0,r8.y0,r8.x1,r8.y1,m3),alB,(qi.picks [5,5,5,5,5]),om,c0,g0,k0,n0,oi,pi⟩
  refine qO rfl ?_
  refine sBS l6 #[I l0,I 2] runUnderlying22 sizeOf3 zeroValue3 ?_
  intro q3 _ s6
  refine nA ?_
  refine qF ?_ ?_
  ·refine qO rfl ?_
   refine sBS s6 #[.slice (At t1 0) 1 1, .slice (At q3 0) 2 2] runUnderlying42 sizeOf22 zeroValue22 ?_
   intro r3 _ si
   refine nA ?_
   refine qO rfl ?_
   have ti:=(si.pick 3 rfl)
   refine cX call11 (tape_next (RdT.flat (ht.up 17 (by rfl))) om ti.flat1 2 om) ?_
   rintro _ _ ⟨u1,rfl,_,ui,_,vi⟩
   have wi:=vi.unflat1
   refine nA ?_
   refine qAdd 1 u1 ?_
   refine qY (.slice (partAddr (At r3 0) 2 0 1) (((1+u1)).toNat-0) (2-0)) rfl (fun w _=>Y_sl (a:=(At r3 0)) (len:=2) (cap:=2) none (some (1+u1)) 0 (((1+u1)).toNat) runUnderlying42 sizeOf22 rfl ⟨om,om⟩ om om) ?_
   refine qO rfl ?_
   refine sTl wi 8 (encPlane b0) sizeOf38 ?_
   intro _ t6
   refine nA ?_
   refine qU [12] ?_
   refine qN<|jXI 1 rfl ?_
   dsimp only [List.set_cons_zero,List.set_cons_succ,List.eraseIdx_cons_zero,List.eraseIdx_cons_succ] at t6
   have xi:=((t6.picks [13,15,12,13,8,15,16,16,8,10,11,11]).drops [12,12,12,13])
   obtain ⟨yi,zi,aj,bj,cj⟩:=il2p xi [1] [l0,2] (((1+u1)).toNat) om
   exact ⟨(d0,a0,f0,b0,(partAddr (At r3 0) 2 0 1),(((1+u1)).toNat-0),(2-0),zi,i0,j0,h0,m0,yi,pt0,r8.x0,r8.y0,r8.x1,r8.y1,ui),alB,(cj.picks [5,5,5,5,5]),om,c0,g0,k0,n0,aj,bj⟩
  refine qO rfl ?_
  have ej:=(s6.pick 2 rfl)
  refine cX call11 (tape_next (RdT.flat (ht.up 16 (by rfl))) om ej.flat1 2 om) ?_
  rintro _ _ ⟨v0,rfl,_,u6,_,fj⟩
  have v6:=fj.unflat1
  refine nA ?_
  refine qAdd 1 v0 ?_
  refine qF ?_ ?_
  rotate_left
  ·refine qO rfl ?_
   refine sTl v6 7 (encPlane b0) sizeOf38 ?_
   intro _ gj
   refine nA ?_
   refine qO rfl ?_
   refine sBS gj #[.slice (At t1 0) 1 1, .slice (At q3 0) 2 2] runUnderlying42 sizeOf22 zeroValue22 ?_
   intro s3 _ w6
   refine nA ?_
   refine qY (.slice (partAddr (At s3 0) 2 0 1) (((1+v0)).toNat-0) (2-0)) rfl (fun w _=>Y_sl (a:=(At s3 0)) (len:=2) (cap:=2) none (some (1+v0)) 0 (((1+v0)).toNat) runUnderlying42 sizeOf22 rfl ⟨om,om⟩ om om) ?_
   refine qU [12] ?_
   refine qN<|jXI 1 rfl ?_
   dsimp only [List.set_cons_zero,List.set_cons_succ,List.eraseIdx_cons_zero,List.eraseIdx_cons_succ] at w6
   have hj:=((w6.picks [13,15,12,13,8,15,16,16,9,10,11,11]).drops [12,12,12,13])
   obtain ⟨ij,jj,kj,lj,mj⟩:=il2p hj [1] [l0,2] (((1+v0)).toNat) om
   exact ⟨(d0,a0,f0,b0,(partAddr (At s3 0) 2 0 1),(((1+v0)).toNat-0),(2-0),jj,i0,j0,h0,m0,ij,pt0,r8.x0,r8.y0,r8.x1,r8.y1,u6),alB,(mj.picks [5,5,5,5,5]),om,c0,g0,k0,n0,kj,lj⟩
  refine qO rfl ?_
  refine sBS v6 #[.slice (At t1 0) 1 1, .slice (At q3 0) 2 2] runUnderlying42 sizeOf22 zeroValue22 ?_
  intro t3 _ oj
  refine nA ?_
  refine qY (.slice (partAddr (At t3 0) 2 0 1) (((1+v0)).toNat-0) (2-0)) rfl (fun w _=>Y_sl (a:=(At t3 0)) (len:=2) (cap:=2) none (some (1+v0)) 0 (((1+v0)).toNat) runUnderlying42 sizeOf22 rfl ⟨om,om⟩ om om) ?_
  refine qO rfl ?_
  refine sTl oj 8 (encPlane b0) sizeOf38 ?_
  intro _ x6
  refine nA ?_
  refine qU [12] ?_
  refine qN<|jXI 1 rfl ?_
  dsimp only [List.set_cons_zero,List.set_cons_succ,List.eraseIdx_cons_zero,List.eraseIdx_cons_succ] at x6
  have pj:=((x6.picks [13,15,12,13,8,15,16,16,9,10,11,11]).drops [12,12,12,13])
  obtain ⟨qj,rj,sj,tj,uj⟩:=il2p pj [1] [l0,2] (((1+v0)).toNat) om
  exact ⟨(d0,a0,f0,b0,(partAddr (At t3 0) 2 0 1),(((1+v0)).toNat-0),(2-0),rj,i0,j0,h0,m0,qj,pt0,r8.x0,r8.y0,r8.x1,r8.y1,u6),alB,(uj.picks [5,5,5,5,5]),om,c0,g0,k0,n0,sj,tj⟩
 ·refine qO rfl ?_
  refine sBS l3 #[I l0,I 2] runUnderlying22 sizeOf3 zeroValue3 ?_
  intro v1 _ y6
  refine nA ?_
  refine qF ?_ ?_
  rotate_left
  ·refine qO rfl ?_
   have wj:=(y6.pick 1 rfl)
   refine cX call11 (tape_next (RdT.flat (ht.up 15 (by rfl))) om wj.flat1 2 om) ?_
   rintro _ _ ⟨r0,rfl,_,u3,_,xj⟩
   have z6:=xj.unflat1
   refine nA ?_
   refine qAdd 1 r0 ?_
   refine qF ?_ ?_
   rotate_left
   ·refine qO rfl ?_
    refine sTl z6 6 (encPlane b0) sizeOf38 ?_
    intro _ yj
    refine nA ?_
    refine qO rfl ?_
    refine sBS yj #[I 1] runUnderlying22 sizeOf3 zeroValue3 ?_
    intro zj _ ak
    refine nA ?_
    refine qO rfl ?_
    refine sBS ak #[.slice (At zj 0) 1 1, .slice (At v1 0) 2 2] runUnderlying42 sizeOf22 zeroValue22 ?_
    intro v3 _ a7
    refine nA ?_
    refine qY (.slice (partAddr (At v3 0) 2 0 1) (((1+r0)).toNat-0) (2-0)) rfl (fun w _=>Y_sl (a:=(At v3 0)) (len:=2) (cap:=2) none (some (1+r0)) 0 (((1+r0)).toNat) runUnderlying42 sizeOf22 rfl ⟨om,om⟩ om om) ?_
    refine qU [12] ?_
    refine qN<|jXI 1 rfl ?_
    dsimp only [List.set_cons_zero,List.set_cons_succ,List.eraseIdx_cons_zero,List.eraseIdx_cons_succ] at a7
    have bk:=((a7.picks [13,15,12,13,8,15,16,16,10,11,11,11]).drops [12,12,12,13])
    obtain ⟨ck,dk,ek,gk,hk⟩:=il2p bk [1] [l0,2] (((1+r0)).toNat) om
    exact ⟨(d0,a0,f0,b0,(partAddr (At v3 0) 2 0 1),(((1+r0)).toNat-0),(2-0),dk,i0,j0,h0,m0,ck,pt0,r8.x0,r8.y0,r8.x1,r8.y1,u3),alB,(hk.picks [5,5,5,5,5]),om,c0,g0,k0,n0,ek,gk⟩
   refine qO rfl ?_
   refine sBS z6 #[I 1] runUnderlying22 sizeOf3 zeroValue3 ?_
   intro b7 _ c7
   refine nA ?_
   refine qF ?_ ?_
   rotate_left
   ·refine qO rfl ?_
    refine sTl c7 7 (encPlane b0) sizeOf38 ?_
    intro _ jk
    refine nA ?_
    refine qO rfl ?_
    refine sBS jk #[.slice (At b7 0) 1 1, .slice (At v1 0) 2 2] runUnderlying42 sizeOf22 zeroValue22 ?_
    intro w3 _ d7
    refine nA ?_
    refine qY (.slice (partAddr (At w3 0) 2 0 1) (((1+r0)).toNat-0) (2-0)) rfl (fun w _=>Y_sl (a:=(At w3 0)) (len:=2) (cap:=2) none (some (1+r0)) 0 (((1+r0)).toNat) runUnderlying42 sizeOf22 rfl ⟨om,om⟩ om om) ?_
    refine qU [12] ?_
    refine qN<|jXI 1 rfl ?_
    dsimp only [List.set_cons_zero,List.set_cons_succ,List.eraseIdx_cons_zero,List.eraseIdx_cons_succ] at d7
    have kk:=((d7.picks [13,15,12,13,8,15,16,16,10,11,11,11]).drops [12,12,12,13])
    obtain ⟨lk,mk,nk,ok,pk⟩:=il2p kk [1] [l0,2] (((1+r0)).toNat) om
    exact ⟨(d0,a0,f0,b0,(partAddr (At w3 0) 2 0 1),(((1+r0)).toNat-0),(2-0),mk,i0,j0,h0,m0,lk,pt0,r8.x0,r8.y0,r8.x1,r8.y1,u3),alB,(pk.picks [5,5,5,5,5]),om,c0,g0,k0,n0,nk,ok⟩
   refine qO rfl ?_
   refine sBS c7 #[.slice (At b7 0) 1 1, .slice (At v1 0) 2 2] runUnderlying42 sizeOf22 zeroValue22 ?_
   intro x3 _ rk
   refine nA ?_
   refine qY (.slice (partAddr (At x3 0) 2 0 1) (((1+r0)).toNat-0) (2-0)) rfl (fun w _=>Y_sl (a:=(At x3 0)) (len:=2) (cap:=2) none (some (1+r0)) 0 (((1+r0)).toNat) runUnderlying42 sizeOf22 rfl ⟨om,om⟩ om om) ?_
   refine qO rfl ?_
   refine sTl rk 8 (encPlane b0) sizeOf38 ?_
   intro _ e7
   refine nA ?_
   refine qU [12] ?_
   refine qN<|jXI 1 rfl ?_
   dsimp only [List.set_cons_zero,List.set_cons_succ,List.eraseIdx_cons_zero,List.eraseIdx_cons_succ] at e7
   have sk:=((e7.picks [13,15,12,13,8,15,16,16,10,11,11,11]).drops [12,12,12,13])
   obtain ⟨tk,uk,vk,wk,xk⟩:=il2p sk [1] [l0,2] (((1+r0)).toNat) om
   exact ⟨(d0,a0,f0,b0,(partAddr (At x3 0) 2 0 1),(((1+r0)).toNat-0),(2-0),uk,i0,j0,h0,m0,tk,pt0,r8.x0,r8.y0,r8.x1,r8.y1,u3),alB,(xk.picks [5,5,5,5,5]),om,c0,g0,k0,n0,vk,wk⟩
  refine qO rfl ?_
  refine sBS y6 #[I 1] runUnderlying22 sizeOf3 zeroValue3 ?_
  intro y3 _ f7
  refine nA ?_
  refine qF ?_ ?_
  ·refine qO rfl ?_
   refine sBS f7 #[.slice (At y3 0) 1 1, .slice (At v1 0) 2 2] runUnderlying42 sizeOf22 zeroValue22 ?_
   intro z3 _ zk
   refine nA ?_
   refine qO rfl ?_
   have bl:=(zk.pick 3 rfl)
   refine cX call11 (tape_next (RdT.flat (ht.up 17 (by rfl))) om bl.flat1 2 om) ?_
   rintro _ _ ⟨w1,rfl,_,cl,_,dl⟩
   have el:=dl.unflat1
   refine nA ?_
   refine qAdd 1 w1 ?_
   refine qY (.slice (partAddr (At z3 0) 2 0 1) (((1+w1)).toNat-0) (2-0)) rfl (fun w _=>Y_sl (a:=(At z3 0)) (len:=2) (cap:=2) none (some (1+w1)) 0 (((1+w1)).toNat) runUnderlying42 sizeOf22 rfl ⟨om,om⟩ om om) ?_
   refine qO rfl ?_
   refine sTl el 8 (encPlane b0) sizeOf38 ?_
   intro _ g7
   refine nA ?_
   refine qU [12] ?_
   refine qN<|jXI 1 rfl ?_
   dsimp only [List.set_cons_zero,List.set_cons_succ,List.eraseIdx_cons_zero,List.eraseIdx_cons_succ] at g7
   have fl:=((g7.picks [13,15,12,13,8,15,16,16,8,11,11,11]).drops [12,12,12,13])
   obtain ⟨gl,hl,il,jl,ll⟩:=il2p fl [1] [l0,2] (((1+w1)).toNat) om
   exact ⟨(d0,a0,f0,b0,(partAddr (At z3 0) 2 0 1),(((1+w1)).toNat-0),(2-0),hl,i0,j0,h0,m0,gl,pt0,r8.x0,r8.y0,r8.x1,r8.y1,cl),alB,(ll.picks [5,5,5,5,5]),om,c0,g0,k0,n0,il,jl⟩
  refine qO rfl ?_
  have ol:=(f7.pick 2 rfl)
  refine cX call11 (tape_next (RdT.flat (ht.up 16 (by rfl))) om ol.flat1 2 om) ?_
  rintro _ _ ⟨w0,rfl,_,h7,_,pl⟩
  have i7:=pl.unflat1
  refine nA ?_
  refine qAdd 1 w0 ?_
  refine qF ?_ ?_
  rotate_left
  ·refine qO rfl ?_
   refine sTl i7 7 (encPlane b0) sizeOf38 ?_
   intro _ ql
   refine nA ?_
   refine qO rfl ?_
   refine sBS ql #[.slice (At y3 0) 1 1, .slice (At v1 0) 2 2] runUnderlying42 sizeOf22 zeroValue22 ?_
   intro a4 _ j7
   refine nA ?_
   refine qY (.slice (partAddr (At a4 0) 2 0 1) (((1+w0)).toNat-0) (2-0)) rfl (fun w _=>Y_sl (a:=(At a4 0)) (len:=2) (cap:=2) none (some (1+w0)) 0 (((1+w0)).toNat) runUnderlying42 sizeOf22 rfl ⟨om,om⟩ om om) ?_
   refine qU [12] ?_
   refine qN<|jXI 1 rfl ?_
   dsimp only [List.set_cons_zero,List.set_cons_succ,List.eraseIdx_cons_zero,List.eraseIdx_cons_succ] at j7
   have rl:=((j7.picks [13,15,12,13,8,15,16,16,9,11,11,11]).drops [12,12,12,13])
   obtain ⟨sl,tl,ul,vl,wl⟩:=il2p rl [1] [l0,2] (((1+w0)).toNat) om
   exact ⟨(d0,a0,f0,b0,(partAddr (At a4 0) 2 0 1),(((1+w0)).toNat-0),(2-0),tl,i0,j0,h0,m0,sl,pt0,r8.x0,r8.y0,r8.x1,r8.y1,h7),alB,(wl.picks [5,5,5,5,5]),om,c0,g0,k0,n0,ul,vl⟩
  refine qO rfl ?_
  refine sBS i7 #[.slice (At y3 0) 1 1, .slice (At v1 0) 2 2] runUnderlying42 sizeOf22 zeroValue22 ?_
  intro b4 _ yl
  refine nA ?_
  refine qY (.slice (partAddr (At b4 0) 2 0 1) (((1+w0)).toNat-0) (2-0)) rfl (fun w _=>Y_sl (a:=(At b4 0)) (len:=2) (cap:=2) none (some (1+w0)) 0 (((1+w0)).toNat) runUnderlying42 sizeOf22 rfl ⟨om,om⟩ om om) ?_
  refine qO rfl ?_
  refine sTl yl 8 (encPlane b0) sizeOf38 ?_
  intro _ k7
  refine nA ?_
  refine qU [12] ?_
  refine qN<|jXI 1 rfl ?_
  dsimp only [List.set_cons_zero,List.set_cons_succ,List.eraseIdx_cons_zero,List.eraseIdx_cons_succ] at k7
  have zl:=((k7.picks [13,15,12,13,8,15,16,16,9,11,11,11]).drops [12,12,12,13])
  obtain ⟨am,bm,cm,dm,em⟩:=il2p zl [1] [l0,2] (((1+w0)).toNat) om
  exact ⟨(d0,a0,f0,b0,(partAddr (At b4 0) 2 0 1),(((1+w0)).toNat-0),(2-0),bm,i0,j0,h0,m0,am,pt0,r8.x0,r8.y0,r8.x1,r8.y1,h7),alB,(em.picks [5,5,5,5,5]),om,c0,g0,k0,n0,cm,dm⟩
 refine qO rfl ?_
 refine cX call11 (tape_next (RdT.flat (ht.up 14 (by rfl))) om l3.flat1 2 om) ?_
 rintro _ _ ⟨e0,rfl,_,c1,_,gm⟩
 have c4:=gm.unflat1
 refine nA ?_
 refine qAdd 1 e0 ?_
 refine qF3 ?_ ?_ ?_
 ·refine qO rfl ?_
  refine sBS c4 #[I 1] runUnderlying22 sizeOf3 zeroValue3 ?_
  intro d4 _ l7
  refine nA ?_
  refine qF ?_ ?_
  rotate_left
  ·refine qO rfl ?_
   refine sTl l7 6 (encPlane b0) sizeOf38 ?_
   intro _ hm
   refine nA ?_
   refine qO rfl ?_
   refine sBS hm #[I l0,I 2] runUnderlying22 sizeOf3 zeroValue3 ?_
   intro im _ jm
   refine nA ?_
   refine qO rfl ?_
   refine sBS jm #[.slice (At d4 0) 1 1, .slice (At im 0) 2 2] runUnderlying42 sizeOf22 zeroValue22 ?_
   intro e4 _ m7
   refine nA ?_
   refine qY (.slice (partAddr (At e4 0) 2 0 1) (((1+e0)).toNat-0) (2-0)) rfl (fun w _=>Y_sl (a:=(At e4 0)) (len:=2) (cap:=2) none (some (1+e0)) 0 (((1+e0)).toNat) runUnderlying42 sizeOf22 rfl ⟨om,om⟩ om om) ?_
   refine qU [12] ?_
   refine qN<|jXI 1 rfl ?_
   dsimp only [List.set_cons_zero,List.set_cons_succ,List.eraseIdx_cons_zero,List.eraseIdx_cons_succ] at m7
   have km:=((m7.picks [13,15,12,13,8,15,16,16,11,10,11,11]).drops [12,12,12,13])
   obtain ⟨lm,mm,nm,pm,qm⟩:=il2p km [1] [l0,2] (((1+e0)).toNat) om
   exact ⟨(d0,a0,f0,b0,(partAddr (At e4 0) 2 0 1),(((1+e0)).toNat-0),(2-0),mm,i0,j0,h0,m0,lm,pt0,r8.x0,r8.y0,r8.x1,r8.y1,c1),alB,(qm.picks [5,5,5,5,5]),om,c0,g0,k0,n0,nm,pm⟩
  refine qO rfl ?_
  refine sBS l7 #[I l0,I 2] runUnderlying22 sizeOf3 zeroValue3 ?_
  intro n7 _ o7
  refine nA ?_
  refine qF ?_ ?_
  rotate_left
  ·refine qO rfl ?_
   refine sTl o7 7 (encPlane b0) sizeOf38 ?_
   intro _ sm
   refine nA ?_
   refine qO rfl ?_
   refine sBS sm #[.slice (At d4 0) 1 1, .slice (At n7 0) 2 2] runUnderlying42 sizeOf22 zeroValue22 ?_
   intro f4 _ p7
   refine nA ?_
   refine qY (.slice (partAddr (At f4 0) 2 0 1) (((1+e0)).toNat-0) (2-0)) rfl (fun w _=>Y_sl (a:=(At f4 0)) (len:=2) (cap:=2) none (some (1+e0)) 0 (((1+e0)).toNat) runUnderlying42 sizeOf22 rfl ⟨om,om⟩ om om) ?_
   refine qU [12] ?_
   refine qN<|jXI 1 rfl ?_
   dsimp only [List.set_cons_zero,List.set_cons_succ,List.eraseIdx_cons_zero,List.eraseIdx_cons_succ] at p7
   have tm:=((p7.picks [13,15,12,13,8,15,16,16,11,10,11,11]).drops [12,12,12,13])
   obtain ⟨um,vm,wm,xm,ym⟩:=il2p tm [1] [l0,2] (((1+e0)).toNat) om
   exact ⟨(d0,a0,f0,b0,(partAddr (At f4 0) 2 0 1),(((1+e0)).toNat-0),(2-0),vm,i0,j0,h0,m0,um,pt0,r8.x0,r8.y0,r8.x1,r8.y1,c1),alB,(ym.picks [5,5,5,5,5]),om,c0,g0,k0,n0,wm,xm⟩
  refine qO rfl ?_
  refine sBS o7 #[.slice (At d4 0) 1 1, .slice (At n7 0) 2 2] runUnderlying42 sizeOf22 zeroValue22 ?_
  intro g4 _ an
  refine nA ?_
  refine qY (.slice (partAddr (At g4 0) 2 0 1) (((1+e0)).toNat-0) (2-0)) rfl (fun w _=>Y_sl (a:=(At g4 0)) (len:=2) (cap:=2) none (some (1+e0)) 0 (((1+e0)).toNat) runUnderlying42 sizeOf22 rfl ⟨om,om⟩ om om) ?_
  refine qO rfl ?_
  refine sTl an 8 (encPlane b0) sizeOf38 ?_
  intro _ q7
  refine nA ?_
  refine qU [12] ?_
  refine qN<|jXI 1 rfl ?_
  dsimp only [List.set_cons_zero,List.set_cons_succ,List.eraseIdx_cons_zero,List.eraseIdx_cons_succ] at q7
  have bn:=((q7.picks [13,15,12,13,8,15,16,16,11,10,11,11]).drops [12,12,12,13])
  obtain ⟨cn,dn,en,gn,hn⟩:=il2p bn [1] [l0,2] (((1+e0)).toNat) om
  exact ⟨(d0,a0,f0,b0,(partAddr (At g4 0) 2 0 1),(((1+e0)).toNat-0),(2-0),dn,i0,j0,h0,m0,cn,pt0,r8.x0,r8.y0,r8.x1,r8.y1,c1),alB,(hn.picks [5,5,5,5,5]),om,c0,g0,k0,n0,en,gn⟩
 ·refine qO rfl ?_
  refine sBS c4 #[I l0,I 2] runUnderlying22 sizeOf3 zeroValue3 ?_
  intro h4 _ r7
  refine nA ?_
  refine qF ?_ ?_
  rotate_left
  ·refine qO rfl ?_
   refine sTl r7 6 (encPlane b0) sizeOf38 ?_
   intro _ kn
   refine nA ?_
   refine qO rfl ?_
   refine sBS kn #[I 1] runUnderlying22 sizeOf3 zeroValue3 ?_
   intro ln _ mn
   refine nA ?_
   refine qO rfl ?_
   refine sBS mn #[.slice (At ln 0) 1 1, .slice (At h4 0) 2 2] runUnderlying42 sizeOf22 zeroValue22 ?_
   intro i4 _ s7
   refine nA ?_
   refine qY (.slice (partAddr (At i4 0) 2 0 1) (((1+e0)).toNat-0) (2-0)) rfl (fun w _=>Y_sl (a:=(At i4 0)) (len:=2) (cap:=2) none (some (1+e0)) 0 (((1+e0)).toNat) runUnderlying42 sizeOf22 rfl ⟨om,om⟩ om om) ?_
   refine qU [12] ?_
   refine qN<|jXI 1 rfl ?_
   dsimp only [List.set_cons_zero,List.set_cons_succ,List.eraseIdx_cons_zero,List.eraseIdx_cons_succ] at s7
   have nn:=((s7.picks [13,15,12,13,8,15,16,16,11,11,11,11]).drops [12,12,12,13])
   obtain ⟨on,pn,qn,rn,sn⟩:=il2p nn [1] [l0,2] (((1+e0)).toNat) om
   exact ⟨(d0,a0,f0,b0,(partAddr (At i4 0) 2 0 1),(((1+e0)).toNat-0),(2-0),pn,i0,j0,h0,m0,on,pt0,r8.x0,r8.y0,r8.x1,r8.y1,c1),alB,(sn.picks [5,5,5,5,5]),om,c0,g0,k0,n0,qn,rn⟩
  refine qO rfl ?_
  refine sBS r7 #[I 1] runUnderlying22 sizeOf3 zeroValue3 ?_
  intro t7 _ u7
  refine nA ?_
  refine qF ?_ ?_
  rotate_left
  ·refine qO rfl ?_
   refine sTl u7 7 (encPlane b0) sizeOf38 ?_
   intro _ un
   refine nA ?_
   refine qO rfl ?_
   refine sBS un #[.slice (At t7 0) 1 1, .slice (At h4 0) 2 2] runUnderlying42 sizeOf22 zeroValue22 ?_
   intro j4 _ v7
   refine nA ?_
   refine qY (.slice (partAddr (At j4 0) 2 0 1) (((1+e0)).toNat-0) (2-0)) rfl (fun w _=>Y_sl (a:=(At j4 0)) (len:=2) (cap:=2) none (some (1+e0)) 0 (((1+e0)).toNat) runUnderlying42 sizeOf22 rfl ⟨om,om⟩ om om) ?_
   refine qU [12] ?_
   refine qN<|jXI 1 rfl ?_
   dsimp only [List.set_cons_zero,List.set_cons_succ,List.eraseIdx_cons_zero,List.eraseIdx_cons_succ] at v7
   have vn:=((v7.picks [13,15,12,13,8,15,16,16,11,11,11,11]).drops [12,12,12,13])
   obtain ⟨wn,xn,yn,zn,ao⟩:=il2p vn [1] [l0,2] (((1+e0)).toNat) om
   exact ⟨(d0,a0,f0,b0,(partAddr (At j4 0) 2 0 1),(((1+e0)).toNat-0),(2-0),xn,i0,j0,h0,m0,wn,pt0,r8.x0,r8.y0,r8.x1,r8.y1,c1),alB,(ao.picks [5,5,5,5,5]),om,c0,g0,k0,n0,yn,zn⟩
  refine qO rfl ?_
  refine sBS u7 #[.slice (At t7 0) 1 1, .slice (At h4 0) 2 2] runUnderlying42 sizeOf22 zeroValue22 ?_
  intro k4 _ co
  refine nA ?_
  refine qY (.slice (partAddr (At k4 0) 2 0 1) (((1+e0)).toNat-0) (2-0)) rfl (fun w _=>Y_sl (a:=(At k4 0)) (len:=2) (cap:=2) none (some (1+e0)) 0 (((1+e0)).toNat) runUnderlying42 sizeOf22 rfl ⟨om,om⟩ om om) ?_
  refine qO rfl ?_
  refine sTl co 8 (encPlane b0) sizeOf38 ?_
  intro _ w7
  refine nA ?_
  refine qU [12] ?_
  refine qN<|jXI 1 rfl ?_
  dsimp only [List.set_cons_zero,List.set_cons_succ,List.eraseIdx_cons_zero,List.eraseIdx_cons_succ] at w7
  have eo:=((w7.picks [13,15,12,13,8,15,16,16,11,11,11,11]).drops [12,12,12,13])
  obtain ⟨fo,go,ho,io,jo⟩:=il2p eo [1] [l0,2] (((1+e0)).toNat) om
  exact ⟨(d0,a0,f0,b0,(partAddr (At k4 0) 2 0 1),(((1+e0)).toNat-0),(2-0),go,i0,j0,h0,m0,fo,pt0,r8.x0,r8.y0,r8.x1,r8.y1,c1),alB,(jo.picks [5,5,5,5,5]),om,c0,g0,k0,n0,ho,io⟩
 refine qO rfl ?_
 refine sTl c4 5 (encPlane b0) sizeOf38 ?_
 intro _ x7
 refine nA ?_
 refine qF ?_ ?_
 rotate_left
 ·refine qO rfl ?_
  refine sBS x7 #[I l0,I 2] runUnderlying22 sizeOf3 zeroValue3 ?_
  intro lo _ mo
  refine nA ?_
  refine qO rfl ?_
  refine sBS mo #[I 1] runUnderlying22 sizeOf3 zeroValue3 ?_
  intro no _ oo
  refine nA ?_
  refine qO rfl ?_
  refine sBS oo #[.slice (At no 0) 1 1, .slice (At lo 0) 2 2] runUnderlying42 sizeOf22 zeroValue22 ?_
  intro l4 _ y7
  refine nA ?_
  refine qY (.slice (partAddr (At l4 0) 2 0 1) (((1+e0)).toNat-0) (2-0)) rfl (fun w _=>Y_sl (a:=(At l4 0)) (len:=2) (cap:=2) none (some (1+e0)) 0 (((1+e0)).toNat) runUnderlying42 sizeOf22 rfl ⟨om,om⟩ om om) ?_
  refine qU [12] ?_
  refine qN<|jXI 1 rfl ?_
  dsimp only [List.set_cons_zero,List.set_cons_succ,List.eraseIdx_cons_zero,List.eraseIdx_cons_succ] at y7
  have po:=((y7.picks [13,15,12,13,8,15,16,16,11,11,11,11]).drops [12,12,12,13])
  obtain ⟨qo,ro,so,uo,vo⟩:=il2p po [1] [l0,2] (((1+e0)).toNat) om
  exact ⟨(d0,a0,f0,b0,(partAddr (At l4 0) 2 0 1),(((1+e0)).toNat-0),(2-0),ro,i0,j0,h0,m0,qo,pt0,r8.x0,r8.y0,r8.x1,r8.y1,c1),alB,(vo.picks [5,5,5,5,5]),om,c0,g0,k0,n0,so,uo⟩
 refine qO rfl ?_
 refine sBS x7 #[I 1] runUnderlying22 sizeOf3 zeroValue3 ?_
 intro xo _ yo
 refine nA ?_
 refine qO rfl ?_
 refine sBS yo #[I l0,I 2] runUnderlying22 sizeOf3 zeroValue3 ?_
 intro zo _ ap
 refine nA ?_
 refine qO rfl ?_
 refine sBS ap #[.slice (At xo 0) 1 1, .slice (At zo 0) 2 2] runUnderlying42 sizeOf22 zeroValue22 ?_
 intro m4 _ z7
 refine nA ?_
 refine qY (.slice (partAddr (At m4 0) 2 0 1) (((1+e0)).toNat-0) (2-0)) rfl (fun w _=>Y_sl (a:=(At m4 0)) (len:=2) (cap:=2) none (some (1+e0)) 0 (((1+e0)).toNat) runUnderlying42 sizeOf22 rfl ⟨om,om⟩ om om) ?_
 refine qU [12] ?_
 refine qN<|jXI 1 rfl ?_
 dsimp only [List.set_cons_zero,List.set_cons_succ,List.eraseIdx_cons_zero,List.eraseIdx_cons_succ] at z7
 have bp:=((z7.picks [13,15,12,13,8,15,16,16,11,10,11,11]).drops [12,12,12,13])
 obtain ⟨cp,dp,ep,fp,gp⟩:=il2p bp [1] [l0,2] (((1+e0)).toNat) om
 exact ⟨(d0,a0,f0,b0,(partAddr (At m4 0) 2 0 1),(((1+e0)).toNat-0),(2-0),dp,i0,j0,h0,m0,cp,pt0,r8.x0,r8.y0,r8.x1,r8.y1,c1),alB,(gp.picks [5,5,5,5,5]),om,c0,g0,k0,n0,ep,fp⟩
end Go.Proofs.YtghcddbhllkbmaaGreat
