import Derived.Test.YtmlhcafjelkjfaaP1Ab
import Derived.WalkKit
import Derived.Deep.Quiet
import Derived.KernelRfl
import Derived.Laws.BytesString
import Derived.Laws.Shifts
import Derived.Laws.IdiomStrings
import Derived.Test.YtmlhcafjelkjfaaProg
import Derived.Laws.IdiomRangeMap
import Derived.Test.YtmlhcafjelkjfaaP1Ty
namespace Go.Proofs.Ytmlhcafjelkjfaa
open Go Go.E Go.Proofs.Try
set_option linter.all false
set_option maxRecDepth 100000
set_option maxHeartbeats 2000000
variable {W w:World} {H:Chunk} {F:List Chunk}
def maxV (l:List Int):Int:=l.foldl max (l.getD 0 0)
theorem fold_max_le {B:Int}:∀(l:List Int) (a:Int),a<=B->(∀z∈l,z<=B)->l.foldl max a<=B
  |[],_,ha,_=>ha
  |z::l,a,ha,h=>fold_max_le l (max a z) (by have:=h z (List.mem_cons_self ..);omega) fun y hy=>h y (List.mem_cons_of_mem _ hy)
theorem maxV_le {l:List Int} {B:Int} (h0:0<=B) (h:∀z∈l,z<=B):maxV l<=B:=by
  refine fold_max_le l _ ?_ h
  cases l with
  |nil=>exact h0
  |cons x l=>exact h x (List.mem_cons_self ..)
theorem max_succ {l:List Int} {i:Nat} {x:Int} (h:l[i]?=some x):(l.take (i+1)).foldl max (l.getD 0 0)=max ((l.take i).foldl max (l.getD 0 0)) x:=by
  rw [List.take_add_one,h,List.foldl_append];rfl
theorem put_0 {p:PlaneV} {x y w:Int} {q:List Int} (hl:(p.pix.length:Int)=p.w*p.h) (hw:1<=p.w):putL p ⟨x,y,x+w,y⟩ q=p.pix:=by
  apply List.ext_getElem?
  intro k
  unfold putL
  by_cases hk:k<p.pix.length
  · rw [grid_at hk,if_neg (by unfold inR2;dsimp only;omega)]
    unfold pixAt
    have hd:=Int.emod_def (k:Int) p.w
    have e:((k:Int)/p.w*p.w+(k:Int)%p.w).toNat=k:=by rw [Int.mul_comm];omega
    rw [List.getD_eq_getElem?_getD,e,List.getElem?_eq_getElem hk];rfl
  · rw [List.getElem?_eq_none (by rw [grid_len];omega),List.getElem?_eq_none (by omega)]
theorem put_row {p:PlaneV} {x y w:Int} {q:List Int} {j s n m:Nat} (hx:0<=x/\x+w<=p.w) (hw:1<=w) (hn:(n:Int)=w) (hs:(s:Int)=(y+(j:Int))*p.w+x) (hm:(m:Int)=(j:Int)*w) (hq:m+n<=q.length) (hp:s+n<=p.pix.length):
  (putL p ⟨x,y,x+w,y+(j:Int)⟩ q).take s++((q.drop m).take n).take n++(putL p ⟨x,y,x+w,y+(j:Int)⟩ q).drop (s+n)=putL p ⟨x,y,x+w,y+((j+1:Nat):Int)⟩ q:=by
 obtain ⟨A,hA⟩:∃A,A=putL p ⟨x,y,x+w,y+(j:Int)⟩ q:=⟨_,rfl⟩
 have hAl:A.length=p.pix.length:=by rw [hA];exact put_len _ _ _
 have hAt:∀k,k<p.pix.length->A[k]?=some (if inR2 ⟨x,y,x+w,y+(j:Int)⟩ ((k:Int)%p.w) ((k:Int)/p.w) then q.getD (((k:Int)/p.w-y)*(x+w-x)+((k:Int)%p.w-x)).toNat 0 else pixAt p ((k:Int)%p.w) ((k:Int)/p.w)):=by
  intro k hk;rw [hA];unfold putL;exact grid_at hk
 rw [<-hA,List.take_take,Nat.min_self]
 apply List.ext_getElem?
 intro k
 by_cases hk:k<p.pix.length
 ·have hd:=Int.emod_def (k:Int) p.w
  have hd1:=Int.emod_nonneg (k:Int) (show p.w≠0 by omega)
  have hd2:=Int.emod_lt_of_pos (k:Int) (show 0<p.w by omega)
  rw [Int.mul_comm] at hd
  have hR:(putL p ⟨x,y,x+w,y+((j+1:Nat):Int)⟩ q)[k]?=some (if inR2 ⟨x,y,x+w,y+((j+1:Nat):Int)⟩ ((k:Int)%p.w) ((k:Int)/p.w) then q.getD (((k:Int)/p.w-y)*(x+w-x)+((k:Int)%p.w-x)).toNat 0 else pixAt p ((k:Int)%p.w) ((k:Int)/p.w)):=by unfold putL;exact grid_at hk
  rw [hR]
  by_cases h1:k<s
  ·rw [List.append_assoc,List.getElem?_append_left (by rw [List.length_take];omega),List.getElem?_take_of_lt h1,hAt k hk]
   have hno:¬((k:Int)/p.w=y+(j:Int)/\x<=(k:Int)%p.w):=by
    rintro ⟨e1,e2⟩;rw [e1] at hd;omega
   congr 1
   by_cases hi:inR2 ⟨x,y,x+w,y+(j:Int)⟩ ((k:Int)%p.w) ((k:Int)/p.w)
   ·rw [if_pos hi,if_pos (by unfold inR2 at hi⊢;dsimp only at hi⊢;omega)]
   ·rw [if_neg hi,if_neg (by unfold inR2 at hi⊢;dsimp only at hi⊢;omega)]
  ·by_cases h2:k<s+n
   ·have hdiv:(k:Int)/p.w=y+(j:Int):=by
     refine ediv_eq om ?_ ?_<;>omega
    have hmod:(k:Int)%p.w=x+((k-s:Nat):Int):=by rw [hdiv] at hd;omega
    rw [List.append_assoc,List.getElem?_append_right (by rw [List.length_take];omega),List.length_take,Nat.min_eq_left om,List.getElem?_append_left (by rw [List.length_take,List.length_drop];omega),List.getElem?_take_of_lt om,List.getElem?_drop]
    rw [if_pos (by unfold inR2;dsimp only;omega),hdiv,hmod,List.getD_eq_getElem?_getD]
    have e:((y+(j:Int)-y)*(x+w-x)+(x+((k-s:Nat):Int)-x)).toNat=m+(k-s):=by
     rw [show y+(j:Int)-y=(j:Int) by omega,show x+w-x=w by omega,<-hm];omega
    rw [e,List.getElem?_eq_getElem om];rfl
   ·rw [List.append_assoc,List.getElem?_append_right (by rw [List.length_take];omega),List.length_take,Nat.min_eq_left om,List.getElem?_append_right (by rw [List.length_take,List.length_drop];omega),List.length_take,List.length_drop,Nat.min_eq_left om,List.getElem?_drop,show s+n+(k-s-n)=k by omega,hAt k hk]
    have hno:¬((k:Int)/p.w=y+(j:Int)/\(k:Int)%p.w<x+w):=by
     rintro ⟨e1,e2⟩;rw [e1] at hd;omega
    congr 1
    by_cases hi:inR2 ⟨x,y,x+w,y+(j:Int)⟩ ((k:Int)%p.w) ((k:Int)/p.w)
    ·rw [if_pos hi,if_pos (by unfold inR2 at hi⊢;dsimp only at hi⊢;omega)]
    ·rw [if_neg hi,if_neg (by unfold inR2 at hi⊢;dsimp only at hi⊢;omega)]
 ·rw [List.getElem?_eq_none (by rw [List.length_append,List.length_append,List.length_take,List.length_take,List.length_drop,List.length_drop];omega),List.getElem?_eq_none (by rw [put_len];omega)]
theorem put_row2 {p:PlaneV} {x y w:Int} {q:List Int} {j s n m n1 n2:Nat} (hx:0<=x/\x+w<=p.w) (hw:1<=w) (hn:(n:Int)=w) (hs:(s:Int)=(y+(j:Int))*p.w+x) (hm:(m:Int)=(j:Int)*w) (hq:m+n<=q.length) (hp:s+n<=p.pix.length) (h1:n1=n) (h2:n2=n):
    (putL p ⟨x,y,x+w,y+(j:Int)⟩ q).take s++((q.drop m).take n2).take n1++(putL p ⟨x,y,x+w,y+(j:Int)⟩ q).drop (s+n1)=putL p ⟨x,y,x+w,y+((j+1:Nat):Int)⟩ q:=by
  subst h1;subst h2;exact put_row hx hw hn hs hm hq hp
theorem q_max (al:Option Addr) (nl kl:Nat) (l:List Int) (hl:RdT Go.E.encI 1 [H] al nl kl l) (h1:1<=nl/\nl<=100000) (hS:Sat W w (H::F)):
  Ro prog 34 #[.slice al nl kl] (I (maxV l)) W w (H::F):=by
 have hl_l:=hl.le;have hn_l:=hl.len
 refine callsA 25 func34 rfl<|sR<|pu1<|zQ<|pu3<|nT ?_
 have d0:¬(((nl:Int):Int)<1):=om
 refine cF _ (decide_eq_false d0)<|kS<|pu1<|sIdx hl 0 runUnderlying22 sizeOf3 fun b0 _ _ e0 f0=>sLp hS (f0.up 0 rfl) 0 (I b0) (isAgg3 _)<|pu1<|zQ<|pu1<|nT<|blockE<|loopA (γ:=Nat×Int×Int) (fun ⟨i,m,ix⟩=>[(0, .slice al nl kl),(3,I m),(4,I ix)]) (fun ⟨i,m,ix⟩ w=>Sat W w (H::F)/\i<=nl-1/\(ix=(i:Int)+1)/\(m=(l.take (i+1)).foldl max (l.getD 0 0))) (fun ⟨i,m,ix⟩=>(nl-1)-i) (0,b0,1) ⟨hS,om,om,(by have h:l[0]?=some b0:=e0;rw [max_succ h,List.take_zero,List.getD_eq_getElem?_getD,h];exact (Int.max_self _).symm)⟩ ?_
 rintro ⟨i,m,ix⟩ ρ _ ⟨c0,hi,hix,hm⟩
 refine seqE<|sR<|pu4<|nT<|cD (ix<(nl:Int)) (fun g0=>?_) (fun g0=>?_)
 rotate_left
 ·refine exitE<|xB<|tN<|sR<|pu2<|zE<|retT [I m] ?_
  exact ⟨by rw [show maxV l=m from by unfold maxV;rw [hm,show i+1=nl by omega,List.take_of_length_le om]];rfl,c0⟩
 refine kT<|seqE<|blockE<|rE<|pu3<|sIdx hl ix runUnderlying22 sizeOf3 fun a0 _ _ h0 i0=>sLp c0 (i0.up 0 rfl) 0 (I a0) (isAgg3 _)<|stepY (I (max m a0)) rfl rfl (Y_max2 m a0 rfl rfl kr kr)<|pu1<|nB<|rE<|pu1<|sAdd ix 1<|pu1<|nT ?_
 exact ⟨(i+1,(max m a0),(ix+1)),od,alA,c0,om,om,(by have h:l[i+1]?=some a0:=(by rw [show i+1=ix.toNat by omega];exact h0);rw [max_succ h,<-hm])⟩
theorem q_cloneO (ax : Option Addr) (nx kx : Nat) (x : List Int) (hx : RdT Go.E.encI 1 [H] ax nx kx x) (hnx : nx <= 100000) (hS : Sat W w (H :: F)) :
  Calls prog 35 #[.slice ax nx kx] w fun e w' => ∃ (az : Option Addr) (nz kz : Nat) (G : Chunk), e = .returned (.slice az nz kz) /\ OwnT Go.E.encI 3 1 az nz kz (x) G /\ Sat W w' (G :: H :: F) := by
 have hl_x := hx.le; have hn_x := hx.len
 refine callsA 8 func35 rfl <| sR <| pu1 <| zQ <| pu1 <| stepY (.bool (decide (ax = none))) rfl rfl (Y_eqS rfl kr kr (eqvs22 _ ax nx kx)) <| nT <| cD (ax = none) (fun a0 => ?_) (fun a0 => ?_)
 ·refine sR <| pu1 <| zR <| retT [nS] ?_
  have b0 : Sat W _ ([] :: H :: F) := Sat.nilc hS
  have hl : ([] : List Int) = x := (rd_nil hx ‹_›).symm
  have hrd := OwnT.nil (enc := Go.E.encI) (E := 3) (sz := 1) fR
  rw [hl] at hrd
  exact ⟨_, _, _, _, rfl, hrd, b0⟩
 refine kS <| sBS hS #[] runUnderlying22 sizeOf3 zeroValue3 fun c0 _ d0 => pu1 <| sApp (nb := 8) d0 (OwnT.blk (enc := Go.E.encI) (sz := 1) (b := c0) (c := #[]) (E := 3) (xs := []) fR 0 rfl rfl rfl om) 0 (hx.up 1 rfl) underlying22 (i := Try.t3) kr fR fun f0 g0 _ _ h0 i0 => pu1 <| zE <| retT [.slice f0 (0 + nx) g0] ?_
 have hl : ([] ++ x) = x := (by simp)
 have hrd := h0
 rw [hl] at hrd
 exact ⟨_, _, _, _, rfl, hrd, i0⟩
theorem p4_blit (p : Plane) (u0 : Plane) (x : Int) (y : Int) (hp : Plane.Ok [H] p) (hu0 : Plane.Ok [H] u0) (hpo : planeOK p.v = true) (hqo : planeOK u0.v = true) (hxy : (0 <= x /\ x + u0.w <= p.w) /\ 0 <= y /\ y + u0.h <= p.h) (hmm : u0.max_ <= p.max_) (hS : Sat W w (H :: F)) :
  Calls prog 23 #[.agg (encPlane p).toArray, .agg (encPlane u0).toArray, I x, I y] w fun e w' => ∃ (q : Plane) (G : Chunk), e = .returned (.tuple #[.agg (encPlane q).toArray, .bool true]) /\ q.Ok [G] /\ q.v = (⟨p.v.w, p.v.h, p.v.max_, putL p.v ⟨x, y, x + u0.w, y + u0.h⟩ u0.v.pix⟩ : PlaneV) /\ Sat W w' (G :: H :: F) := by
 have hl_p_pix := hp.pix.le; have hn_p_pix := hp.pix.len
 have hl_u0_pix := hu0.pix.le; have hn_u0_pix := hu0.pix.len
 have hps := (plane_sz hpo).1; unfold sizeP at hps; simp only [Plane.v] at hps; have hpl : p.v.pix.length = p.pix.n := hn_p_pix; have hpn := (plane_sz hpo).2.1; rw [hpl] at hpn; simp only [Plane.v] at hpn; have hp1 : 0 < p.w * p.h := Int.mul_pos om om
 have hqs := (plane_sz hqo).1; unfold sizeP at hqs; simp only [Plane.v] at hqs; have hql : u0.v.pix.length = u0.pix.n := hn_u0_pix; have hqn := (plane_sz hqo).2.1; rw [hql] at hqn; simp only [Plane.v] at hqn; have hq1 : 0 < u0.w * u0.h := Int.mul_pos om om
 have hmx : maxV u0.pix.l <= p.max_ := maxV_le om (fun z hz => by have h := (plane_sz hqo).2.2 z hz; simp only [Plane.v] at h; omega)
 obtain ⟨Wq, hWq⟩ : ∃ k : Nat, u0.w = (k : Int) := ⟨_, (Int.toNat_of_nonneg om).symm⟩; obtain ⟨Hq, hHq⟩ : ∃ k : Nat, u0.h = (k : Int) := ⟨_, (Int.toNat_of_nonneg om).symm⟩
 refine callsA 100 func23 rfl <| sR <| sBox hS (.agg (encPlane p).toArray) (encPlane p).toArray fun b0 _ f1 => sBox f1 (.agg (encPlane u0).toArray) (encPlane u0).toArray fun a0 _ g1 => sAlloc g1 zeroValue28 fun j0 _ s0 => pu1 <| zQ <| lA s0 2 0 4 (isAgg28 _) (sizeOf28 _) <| cR call18 (p4_valid p ⟨(RdT.flat (hp.pix.up 3 (by rfl)))⟩ s0.flat) fun _ n0 => pu2 <| sBn 16 (planeOK p.v) (fun h1 => ?_) (fun h1 => ?_)
 rotate_left
 ·refine pu4 <| zC <| pu1 <| sTl n0 0 [I 0, I 0, I 0, nS] sizeOf28 fun _ i1 => pu1 <| zR <| retC i1 0 [I 0, I 0, I 0, nS] (.bool false) (isAgg28 _) (sizeOf28 _) ?_
  first | exact absurd hpo ‹_› | exact absurd hqo ‹_›
 refine gY <| lA n0 1 0 4 (isAgg28 _) (sizeOf28 _) <| gY <| cR call18 (p4_valid u0 ⟨(RdT.flat (hu0.pix.up 3 (by rfl)))⟩ n0.flat) fun _ e0 => pu2 <| nT <| cBn (planeOK u0.v) (fun j1 => ?_) (fun j1 => ?_)
 rotate_left
 ·refine sR <| pu1 <| sTl e0 0 [I 0, I 0, I 0, nS] sizeOf28 fun _ k1 => pu1 <| zR <| retC k1 0 [I 0, I 0, I 0, nS] (.bool false) (isAgg28 _) (sizeOf28 _) ?_
  first | exact absurd hpo ‹_› | exact absurd hqo ‹_›
 refine kT <| seqE <| sR <| pu3 ?_
 have l1 : ¬ ((x : Int) < 0) := om
 refine sFix 24 _ false (decide_eq_false l1) <| pu2 <| gY <| sL e0 2 0 (I p.w) (isAgg3 _) <| pu1 <| gY <| sL e0 1 0 (I u0.w) (isAgg3 _) <| gY <| sSub p.w u0.w <| pu3 ?_
 have m1 : ¬ ((x : Int) > (p.w - u0.w)) := om
 refine sFix 33 _ false (decide_eq_false m1) <| pu4 ?_
 have n1 : ¬ ((y : Int) < 0) := om
 refine sFix 37 _ false (decide_eq_false n1) <| pu2 <| gY <| sL e0 2 1 (I p.h) (isAgg3 _) <| pu1 <| gY <| sL e0 1 1 (I u0.h) (isAgg3 _) <| gY <| sSub p.h u0.h <| pu2 <| nT ?_
 have o1 : ¬ ((y : Int) > (p.h - u0.h)) := om
 refine cF _ (decide_eq_false o1) <| kT <| seqE <| seqE <| drawE [2] [(1, ⟨a0, 3, none⟩, .slice u0.pix.a u0.pix.n u0.pix.k), (4, ⟨b0, 2, none⟩, I p.max_)] [(true, [0, 3]), (true, [1]), (true, [4]), (false, [2]), (true, [5])] rfl kr ⟨cI e0 1, cI e0 2, trivial⟩ ?_
 have q1 := e0.drew
 refine wU [0, 3] <| wLd (.slice u0.pix.a u0.pix.n u0.pix.k) 0 isAgg22 <| wLd (I p.max_) 1 isAgg3 <| wO rfl <| cR call34 (q_max u0.pix.a u0.pix.n u0.pix.k u0.pix.l (RdT.flat (hu0.pix.up 3 (by rfl))) (od) q1.flat) fun _ f0 => nilO ⟨⟨dI, cI f0 2, trivial⟩, ?_⟩
 refine wU [5] <| wN <| tN ?_
 have r1 : ¬ (((maxV u0.pix.l) : Int) > p.max_) := om
 refine cF _ (decide_eq_false r1) <| kT <| seqE <| drawP [8, 10, 11] [(1, ⟨b0, 0, none⟩, I p.w), (3, ⟨b0, 1, none⟩, I p.h), (5, ⟨b0, 2, none⟩, I p.max_), (7, ⟨b0, 3, none⟩, .slice p.pix.a p.pix.n p.pix.k)] (Plan.sts [0, 2, 4, 6] <| Plan.sts [1] <| Plan.sts [3] <| Plan.sts [5] <| Plan.sts [7] <| .fk 8 10 (Plan.sts [9] <| .ef 10 <| .ef 11 <| .fin) (.ef 8 <| Plan.sts [9] <| .ef 11 <| .fin)) rfl kr ⟨cI f0 2, cI f0 2, cI f0 2, cI f0 2, trivial⟩ ?_
 have t0 := f0.drew
 refine qU [0, 2, 4, 6] <| qLd (I p.w) 0 isAgg3 <| qLd (I p.h) 1 isAgg3 <| qLd (I p.max_) 2 isAgg3 <| qLd (.slice p.pix.a p.pix.n p.pix.k) 3 isAgg22 <| qF ?_ ?_
 rotate_left
 ·refine qO rfl <| sAlloc t0 zeroValue28 fun o0 _ i0 => nilO ⟨⟨cI i0 3, cI i0 3, cI i0 3, cI i0 3, trivial⟩, ?_⟩
  refine qO rfl <| cX call35 (q_cloneO p.pix.a p.pix.n p.pix.k p.pix.l (RdT.flat (hp.pix.up 4 (by rfl))) (od) i0.flat) ?_
  rintro _ _ ⟨v0, w0, x0, s1, rfl, p0, t1⟩
  have k0 := t1.unflat1
  have hn_az_61 := p0.len; have hl_az_61 := p0.le
  refine nilO ⟨⟨cI k0 4, cI k0 4, cI k0 4, dI, trivial⟩, ?_⟩
  refine qU [9] <| qO rfl <| sTl k0 1 [I p.w, I p.h, I p.max_, .slice v0 w0 x0] sizeOf28 fun _ y0 => nilO ⟨dA, ?_⟩
  refine qN <| tN <| seqE <| sR <| pu1 <| sL y0 3 1 (I u0.h) (isAgg3 _) <| pu1 <| nT <| blockE ?_
  refine loopA (γ := Nat × (List Int) × (Option Addr) × Nat × Nat × Chunk) (fun ⟨i, zs, azs, nzs, kzs, czs⟩ => [(2, I x), (3, I y), (4, Pt b0 0), (5, Pt a0 0), (8, Pt j0 0), (10, Pt o0 0), (65, I u0.h), (66, I (i : Int))]) (fun ⟨i, zs, azs, nzs, kzs, czs⟩ w => Sat W w (czs :: [(o0, .cells #[I p.w, I p.h, I p.max_, .slice azs nzs kzs] 28 (0, 0))] :: [(j0, .cells #[I 0, I 0, I 0, nS] 28 (0, 0))] :: [(a0, .cells (encPlane u0).toArray 28 (0, 0))] :: [(b0, .cells (encPlane p).toArray 28 (0, 0))] :: H :: F) /\ i <= Hq /\ (zs = putL p.v ⟨x, y, x + u0.w, y + (i : Int)⟩ u0.pix.l) /\ OwnT Go.E.encI 3 1 azs nzs kzs zs czs) (fun ⟨i, zs, azs, nzs, kzs, czs⟩ => Hq - i) (0, (p.pix.l), v0, w0, x0, s1) ⟨y0, om, (by have h := put_0 (p := p.v) (x := x) (y := y) (w := u0.w) (q := u0.pix.l) (by rw [hpl]; simp only [Plane.v]; omega) (by simp only [Plane.v]; omega); rw [show y + ((0 : Nat) : Int) = y by omega]; exact h.symm), p0⟩ ?_
  rintro ⟨i, zs, azs, nzs, kzs, czs⟩ ρ _ ⟨c0, hi, hE, hOzs⟩
  have hn_zs := hOzs.len; have hl_zs := hOzs.le
  have hzl : zs.length = p.pix.n := by rw [hE, put_len, hpl]
  refine sR <| pu1 <| nT <| seqE <| cD ((i : Int) < u0.h) (fun u1 => ?_) (fun u1 => ?_)
  rotate_left
  ·refine exitE <| xB <| tN <| sR <| lA c0 1 0 4 (isAgg28 _) (sizeOf28 _) <| sTl c0 2 [I p.w, I p.h, I p.max_, .slice azs nzs kzs] sizeOf28 fun _ z0 => pu1 <| zE <| retC z0 2 [I p.w, I p.h, I p.max_, .slice azs nzs kzs] (.bool true) (isAgg28 _) (sizeOf28 _) ?_
   exact ⟨(⟨p.w, p.h, p.max_, ⟨azs, nzs, kzs, zs⟩⟩ : Plane), _, rfl, ⟨(hOzs.rdAt (cs := [czs]) 0 rfl)⟩, (by rw [hE, show i = Hq by omega, <- hHq]; rfl), (z0.drops [1, 1, 1, 1])⟩
  refine kT <| seqE <| blockE <| sR <| pu2 <| nT <| seqE ?_
  have hix := pl_ix hpo (x := x + u0.w - 1) (y := y + (i : Int)) (by simp only [Plane.v]; omega) (by simp only [Plane.v]; omega); rw [hpl] at hix; simp only [Plane.v] at hix; have hiq := pl_ix hqo (x := u0.w - 1) (y := (i : Int)) (by simp only [Plane.v]; omega) (by simp only [Plane.v]; omega); rw [hql] at hiq; simp only [Plane.v] at hiq; have hje : ((i : Int) + 1) * u0.w = (i : Int) * u0.w + u0.w := by rw [Int.add_mul, Int.one_mul]
  have hi0 : 0 <= (i : Int) * u0.w := Int.mul_nonneg om om; have hy0 : 0 <= (y + (i : Int)) * p.w := Int.mul_nonneg om om
  refine rE <| pu2 <| sAdd y (i : Int) <| pu1 <| sL c0 4 0 (I p.w) (isAgg3 _) <| sMul (y + (i : Int)) p.w <| pu1 <| sAdd ((y + (i : Int)) * p.w) x <| pu1 <| nT <| drawE [20] [(1, ⟨o0, 3, none⟩, .slice azs nzs kzs), (5, ⟨a0, 0, none⟩, I u0.w), (9, ⟨a0, 3, none⟩, .slice u0.pix.a u0.pix.n u0.pix.k), (12, ⟨a0, 0, none⟩, I u0.w), (17, ⟨a0, 0, none⟩, I u0.w)] [(true, [0, 2, 3, 4, 8, 10, 11, 14]), (true, [15]), (true, [16]), (true, [1]), (true, [5]), (true, [6]), (true, [7]), (true, [9]), (true, [12]), (true, [13]), (true, [17]), (true, [18]), (true, [19]), (false, [20])] rfl kr ⟨cI c0 1, cI c0 3, cI c0 3, cI c0 3, cI c0 3, trivial⟩ ?_
  have w1 := c0.drew
  refine wU [0, 2, 3, 4, 8, 10, 11, 14] <| wAdd (i : Int) 1 <| wU [16] <| wLd (.slice azs nzs kzs) 0 isAgg22 <| wLd (I u0.w) 1 isAgg3 <| wAdd (((y + (i : Int)) * p.w) + x) u0.w ?_
  have x2 := hOzs.part (lo := ((((y + (i : Int)) * p.w) + x)).toNat) (hi := (((((y + (i : Int)) * p.w) + x) + u0.w)).toNat) om om
  refine wY (.slice (partAddr azs kzs (((((y + (i : Int)) * p.w) + x)).toNat) 1) ((((((y + (i : Int)) * p.w) + x) + u0.w)).toNat - (((((y + (i : Int)) * p.w) + x)).toNat)) (kzs - (((((y + (i : Int)) * p.w) + x)).toNat))) rfl (fun w _ => Y_sl (a := azs) (len := nzs) (cap := kzs) (some (((y + (i : Int)) * p.w) + x)) (some ((((y + (i : Int)) * p.w) + x) + u0.w)) (((((y + (i : Int)) * p.w) + x)).toNat) ((((((y + (i : Int)) * p.w) + x) + u0.w)).toNat) runUnderlying22 sizeOf3 ⟨om, om⟩ ⟨om, om⟩ om om) <| wLd (.slice u0.pix.a u0.pix.n u0.pix.k) 2 isAgg22 <| wLd (I u0.w) 3 isAgg3 <| wMul (i : Int) u0.w <| wLd (I u0.w) 4 isAgg3 <| wMul ((i : Int) + 1) u0.w ?_
  have x1 := hu0.pix.part (lo := (((i : Int) * u0.w)).toNat) (hi := ((((i : Int) + 1) * u0.w)).toNat) om om
  refine wY (.slice (partAddr u0.pix.a u0.pix.k ((((i : Int) * u0.w)).toNat) 1) (((((i : Int) + 1) * u0.w)).toNat - ((((i : Int) * u0.w)).toNat)) (u0.pix.k - ((((i : Int) * u0.w)).toNat))) rfl (fun w _ => Y_sl (a := u0.pix.a) (len := u0.pix.n) (cap := u0.pix.k) (some ((i : Int) * u0.w)) (some (((i : Int) + 1) * u0.w)) ((((i : Int) * u0.w)).toNat) (((((i : Int) + 1) * u0.w)).toNat) runUnderlying22 sizeOf3 ⟨om, om⟩ ⟨om, om⟩ om om) <| wO rfl ?_
  refine sCopyR (N := _) (d := ((((((y + (i : Int)) * p.w) + x) + u0.w)).toNat - (((((y + (i : Int)) * p.w) + x)).toNat))) (cap' := (kzs - (((((y + (i : Int)) * p.w) + x)).toNat))) w1 hOzs (x1.up 5 rfl) 0 (((((y + (i : Int)) * p.w) + x)).toNat) ((((((y + (i : Int)) * p.w) + x) + u0.w)).toNat - (((((y + (i : Int)) * p.w) + x)).toNat)) om (by first | exact Nat.min_eq_right om | exact Nat.min_eq_left om) rfl runUnderlying22 sizeOf3 (fun z v hv => by simp only [Go.E.encI, List.mem_singleton] at hv; subst hv; rfl) fun _ y1 z1 g0 => nilO ⟨⟨cI g0 1, cI g0 3, cI g0 3, cI g0 3, cI g0 3, trivial⟩, ?_⟩
  exact wN <| bN <| tN <| rE <| sAdd (i : Int) 1 <| pu1 <| nT <| ⟨(i + 1, (zs.take (((((y + (i : Int)) * p.w) + x)).toNat) ++ ((u0.pix.l.drop ((((i : Int) * u0.w)).toNat)).take (((((i : Int) + 1) * u0.w)).toNat - ((((i : Int) * u0.w)).toNat))).take ((((((y + (i : Int)) * p.w) + x) + u0.w)).toNat - (((((y + (i : Int)) * p.w) + x)).toNat)) ++ zs.drop (((((y + (i : Int)) * p.w) + x)).toNat + ((((((y + (i : Int)) * p.w) + x) + u0.w)).toNat - (((((y + (i : Int)) * p.w) + x)).toNat)))), azs, nzs, kzs, y1), od, alA, g0, om, (by rw [hE]; exact put_row2 (p := p.v) (n := Wq) (by simp only [Plane.v]; omega) om om (by simp only [Plane.v]; omega) om om (by rw [hpl]; omega) om om), z1⟩
 refine qO rfl <| cX call35 (q_cloneO p.pix.a p.pix.n p.pix.k p.pix.l (RdT.flat (hp.pix.up 3 (by rfl))) (od) t0.flat) ?_
 rintro _ _ ⟨a1, b1, c1, a2, rfl, q0, b2⟩
 have l0 := b2.unflat1
 have hn_az_31 := q0.len; have hl_az_31 := q0.le
 refine nilO ⟨⟨cI l0 3, cI l0 3, cI l0 3, dI, trivial⟩, ?_⟩
 refine qU [9] <| qO rfl <| sAlloc l0 zeroValue28 fun r0 _ m0 => nilO ⟨⟨cI m0 4, cI m0 4, cI m0 4, dI, trivial⟩, ?_⟩
 refine qO rfl <| sTl m0 0 [I p.w, I p.h, I p.max_, .slice a1 b1 c1] sizeOf28 fun _ d1 => nilO ⟨dA, ?_⟩
 refine qN <| tN <| seqE <| sR <| pu1 <| sL d1 3 1 (I u0.h) (isAgg3 _) <| pu1 <| nT <| blockE ?_
 have c2 := (d1.pick 1 rfl)
 refine loopA (γ := Nat × (List Int) × (Option Addr) × Nat × Nat × Chunk) (fun ⟨i, zs, azs, nzs, kzs, czs⟩ => [(2, I x), (3, I y), (4, Pt b0 0), (5, Pt a0 0), (8, Pt j0 0), (10, Pt r0 0), (65, I u0.h), (66, I (i : Int))]) (fun ⟨i, zs, azs, nzs, kzs, czs⟩ w => Sat W w (czs :: [(r0, .cells #[I p.w, I p.h, I p.max_, .slice azs nzs kzs] 28 (0, 0))] :: [(j0, .cells #[I 0, I 0, I 0, nS] 28 (0, 0))] :: [(a0, .cells (encPlane u0).toArray 28 (0, 0))] :: [(b0, .cells (encPlane p).toArray 28 (0, 0))] :: H :: F) /\ i <= Hq /\ (zs = putL p.v ⟨x, y, x + u0.w, y + (i : Int)⟩ u0.pix.l) /\ OwnT Go.E.encI 3 1 azs nzs kzs zs czs) (fun ⟨i, zs, azs, nzs, kzs, czs⟩ => Hq - i) (0, (p.pix.l), a1, b1, c1, a2) ⟨c2, om, (by have h := put_0 (p := p.v) (x := x) (y := y) (w := u0.w) (q := u0.pix.l) (by rw [hpl]; simp only [Plane.v]; omega) (by simp only [Plane.v]; omega); rw [show y + ((0 : Nat) : Int) = y by omega]; exact h.symm), q0⟩ ?_
 rintro ⟨i, zs, azs, nzs, kzs, czs⟩ ρ _ ⟨d0, hi, hE, hOzs⟩
 have hn_zs := hOzs.len; have hl_zs := hOzs.le
 have hzl : zs.length = p.pix.n := by rw [hE, put_len, hpl]
 refine sR <| pu1 <| nT <| seqE <| cD ((i : Int) < u0.h) (fun d2 => ?_) (fun d2 => ?_)
 rotate_left
 ·refine exitE <| xB <| tN <| sR <| lA d0 1 0 4 (isAgg28 _) (sizeOf28 _) <| sTl d0 2 [I p.w, I p.h, I p.max_, .slice azs nzs kzs] sizeOf28 fun _ e1 => pu1 <| zE <| retC e1 2 [I p.w, I p.h, I p.max_, .slice azs nzs kzs] (.bool true) (isAgg28 _) (sizeOf28 _) ?_
  exact ⟨(⟨p.w, p.h, p.max_, ⟨azs, nzs, kzs, zs⟩⟩ : Plane), _, rfl, ⟨(hOzs.rdAt (cs := [czs]) 0 rfl)⟩, (by rw [hE, show i = Hq by omega, <- hHq]; rfl), (e1.drops [1, 1, 1, 1])⟩
 refine kT <| seqE <| blockE <| sR <| pu2 <| nT <| seqE ?_
 have hix := pl_ix hpo (x := x + u0.w - 1) (y := y + (i : Int)) (by simp only [Plane.v]; omega) (by simp only [Plane.v]; omega); rw [hpl] at hix; simp only [Plane.v] at hix; have hiq := pl_ix hqo (x := u0.w - 1) (y := (i : Int)) (by simp only [Plane.v]; omega) (by simp only [Plane.v]; omega); rw [hql] at hiq; simp only [Plane.v] at hiq; have hje : ((i : Int) + 1) * u0.w = (i : Int) * u0.w + u0.w := by rw [Int.add_mul, Int.one_mul]
 have hi0 : 0 <= (i : Int) * u0.w := Int.mul_nonneg om om; have hy0 : 0 <= (y + (i : Int)) * p.w := Int.mul_nonneg om om
 refine rE <| pu2 <| sAdd y (i : Int) <| pu1 <| sL d0 4 0 (I p.w) (isAgg3 _) <| sMul (y + (i : Int)) p.w <| pu1 <| sAdd ((y + (i : Int)) * p.w) x <| pu1 <| nT <| drawE [20] [(1, ⟨r0, 3, none⟩, .slice azs nzs kzs), (5, ⟨a0, 0, none⟩, I u0.w), (9, ⟨a0, 3, none⟩, .slice u0.pix.a u0.pix.n u0.pix.k), (12, ⟨a0, 0, none⟩, I u0.w), (17, ⟨a0, 0, none⟩, I u0.w)] [(true, [0, 2, 3, 4, 8, 10, 11, 14]), (true, [15]), (true, [16]), (true, [1]), (true, [5]), (true, [6]), (true, [7]), (true, [9]), (true, [12]), (true, [13]), (true, [17]), (true, [18]), (true, [19]), (false, [20])] rfl kr ⟨cI d0 1, cI d0 3, cI d0 3, cI d0 3, cI d0 3, trivial⟩ ?_
 have f2 := d0.drew
 refine wU [0, 2, 3, 4, 8, 10, 11, 14] <| wAdd (i : Int) 1 <| wU [16] <| wLd (.slice azs nzs kzs) 0 isAgg22 <| wLd (I u0.w) 1 isAgg3 <| wAdd (((y + (i : Int)) * p.w) + x) u0.w ?_
 have e3 := hOzs.part (lo := ((((y + (i : Int)) * p.w) + x)).toNat) (hi := (((((y + (i : Int)) * p.w) + x) + u0.w)).toNat) om om
 refine wY (.slice (partAddr azs kzs (((((y + (i : Int)) * p.w) + x)).toNat) 1) ((((((y + (i : Int)) * p.w) + x) + u0.w)).toNat - (((((y + (i : Int)) * p.w) + x)).toNat)) (kzs - (((((y + (i : Int)) * p.w) + x)).toNat))) rfl (fun w _ => Y_sl (a := azs) (len := nzs) (cap := kzs) (some (((y + (i : Int)) * p.w) + x)) (some ((((y + (i : Int)) * p.w) + x) + u0.w)) (((((y + (i : Int)) * p.w) + x)).toNat) ((((((y + (i : Int)) * p.w) + x) + u0.w)).toNat) runUnderlying22 sizeOf3 ⟨om, om⟩ ⟨om, om⟩ om om) <| wLd (.slice u0.pix.a u0.pix.n u0.pix.k) 2 isAgg22 <| wLd (I u0.w) 3 isAgg3 <| wMul (i : Int) u0.w <| wLd (I u0.w) 4 isAgg3 <| wMul ((i : Int) + 1) u0.w ?_
 have g2 := hu0.pix.part (lo := (((i : Int) * u0.w)).toNat) (hi := ((((i : Int) + 1) * u0.w)).toNat) om om
 refine wY (.slice (partAddr u0.pix.a u0.pix.k ((((i : Int) * u0.w)).toNat) 1) (((((i : Int) + 1) * u0.w)).toNat - ((((i : Int) * u0.w)).toNat)) (u0.pix.k - ((((i : Int) * u0.w)).toNat))) rfl (fun w _ => Y_sl (a := u0.pix.a) (len := u0.pix.n) (cap := u0.pix.k) (some ((i : Int) * u0.w)) (some (((i : Int) + 1) * u0.w)) ((((i : Int) * u0.w)).toNat) (((((i : Int) + 1) * u0.w)).toNat) runUnderlying22 sizeOf3 ⟨om, om⟩ ⟨om, om⟩ om om) <| wO rfl ?_
 refine sCopyR (N := _) (d := ((((((y + (i : Int)) * p.w) + x) + u0.w)).toNat - (((((y + (i : Int)) * p.w) + x)).toNat))) (cap' := (kzs - (((((y + (i : Int)) * p.w) + x)).toNat))) f2 hOzs (g2.up 5 rfl) 0 (((((y + (i : Int)) * p.w) + x)).toNat) ((((((y + (i : Int)) * p.w) + x) + u0.w)).toNat - (((((y + (i : Int)) * p.w) + x)).toNat)) om (by first | exact Nat.min_eq_right om | exact Nat.min_eq_left om) rfl runUnderlying22 sizeOf3 (fun z v hv => by simp only [Go.E.encI, List.mem_singleton] at hv; subst hv; rfl) fun _ h2 i2 h0 => nilO ⟨⟨cI h0 1, cI h0 3, cI h0 3, cI h0 3, cI h0 3, trivial⟩, ?_⟩
 exact wN <| bN <| tN <| rE <| sAdd (i : Int) 1 <| pu1 <| nT <| ⟨(i + 1, (zs.take (((((y + (i : Int)) * p.w) + x)).toNat) ++ ((u0.pix.l.drop ((((i : Int) * u0.w)).toNat)).take (((((i : Int) + 1) * u0.w)).toNat - ((((i : Int) * u0.w)).toNat))).take ((((((y + (i : Int)) * p.w) + x) + u0.w)).toNat - (((((y + (i : Int)) * p.w) + x)).toNat)) ++ zs.drop (((((y + (i : Int)) * p.w) + x)).toNat + ((((((y + (i : Int)) * p.w) + x) + u0.w)).toNat - (((((y + (i : Int)) * p.w) + x)).toNat)))), azs, nzs, kzs, h2), od, alA, h0, om, (by rw [hE]; exact put_row2 (p := p.v) (n := Wq) (by simp only [Plane.v]; omega) om om (by simp only [Plane.v]; omega) om om (by rw [hpl]; omega) om om), i2⟩
theorem p2_area (a:Rct) (ha:rIn a 128 128) (hS:Sat W w (H::F)):
  Ro prog 22 #[.agg (encRct a).toArray] (I ((a.x1-a.x0)*(a.y1-a.y0))) W w (H::F):=by
 unfold rIn at ha;have hmm:=mul_bd (a:=a.x1-a.x0) (b:=a.y1-a.y0) (A:=128) (B:=128) om om
 refine callsA 17 func22 rfl<|sR<|sBox hS (.agg (encRct a).toArray) (encRct a).toArray fun _ _ b0=>pu1<|zQ<|lA b0 0 0 4 (isAgg24 _) (sizeOf24 _)<|cR call33 (p2_valid a b0.flat) fun _ a0=>pu1<|nT ?_
 have c0:rvP a:=(by unfold rvP cooP;omega)
 exact cF _ (congrArg Bool.not (decide_eq_true c0))<|kS<|pu1<|sL a0 0 2 (I a.x1) (isAgg3 _)<|pu1<|sL a0 0 0 (I a.x0) (isAgg3 _)<|sSub a.x1 a.x0<|pu1<|sL a0 0 3 (I a.y1) (isAgg3 _)<|pu1<|sL a0 0 1 (I a.y0) (isAgg3 _)<|sSub a.y1 a.y0<|sMul (a.x1-a.x0) (a.y1-a.y0)<|pu1<|zE<|retT [I ((a.x1-a.x0)*(a.y1-a.y0))]<|⟨rfl,(a0.dropAt 0 rfl)⟩
theorem p21_put (own:Plane) (t:Task) (al:Option Addr) (nl kl:Nat) (l:List Int) (hown:Plane.Ok [H] own) (ht:Task.Ok [H] t) (hl:RdT Go.E.encI 1 [H] al nl kl l) (hS:Sat W w (H::F)):
  Calls prog 11 #[.agg (encPlane own).toArray, .agg (encTask t).toArray, .slice al nl kl] w fun e w'=>∃(q:Plane) (c:Int) (G:Chunk),e= .returned (.tuple #[.agg (encPlane q).toArray,I c])/\q.Ok [G]/\(q.v,c)=putT own.v t.part (⟨t.rectX0,t.rectY0,t.rectX1,t.rectY1⟩:Rct) l/\Sat W w' (G::H::F):=by
 have hl_own_pix:=hown.pix.le;have hn_own_pix:=hown.pix.len
 have hl_t_deps:=ht.deps.le;have hn_t_deps:=ht.deps.len
 have hl_l:=hl.le;have hn_l:=hl.len
 refine callsA 91 func11 rfl ?_
 refine sR ?_
 refine sBox hS (.agg (encPlane own).toArray) (encPlane own).toArray ?_
 intro f0 _ u1
 refine sBox u1 (.agg (encTask t).toArray) (encTask t).toArray ?_
 intro o0 _ v1
 refine sAlloc v1 zeroValue28 ?_
 intro g0 _ w0
 refine pu1<|nT ?_
 refine cutA (γ:=Unit) (fun _=>[(2, .slice al nl kl),(3,Pt f0 0),(4,Pt o0 0),(6,Pt g0 0)]) (fun _ w=>Sat W w ([(g0, .cells #[I 0,I 0,I 0,nS] 28 (0,0))]::[(o0, .cells (encTask t).toArray 33 (0,0))]::[(f0, .cells (encPlane own).toArray 28 (0,0))]::H::F)/\(planeOK own.v=true/\(t.part=0\/t.part=2))) ?_ ?_
 ·refine sR ?_
  refine lA w0 2 0 4 (isAgg28 _) (sizeOf28 _) ?_
  refine cR call18 (p4_valid own ⟨(RdT.flat (hown.pix.up 3 (by rfl)))⟩ w0.flat) ?_
  intro _ h0
  refine pu2 ?_
  refine sBn 17 (planeOK own.v) (fun p0=>?_) (fun p0=>?_)
  rotate_left
  ·refine pu9<|zC<|pu1 ?_
   refine sTl h0 0 [I 0,I 0,I 0,nS] sizeOf28 ?_
   intro _ z0
   refine pu1<|zR<|retC z0 0 [I 0,I 0,I 0,nS] (I 1) (isAgg28 _) (sizeOf28 _) ?_
   have hC:putC own.v t.part (⟨t.rectX0,t.rectY0,t.rectX1,t.rectY1⟩:Rct) l=1:=by unfold putC;rw [if_neg (fun h=>p0 h.1)]
   have w1:=(z0.drops [0,0,0])
   have z1:Sat W _ ([]::H::F):=Sat.nilc w1
   exact ⟨(⟨0,0,0,⟨none,0,0,[]⟩⟩:Plane),1,_,rfl,⟨RdT.nil (enc:=Go.E.encI) (sz:=1) fR [[]]⟩,(by unfold putT;rw [okT_n om,hC];rfl),z1⟩
  refine pu1<|gY ?_
  refine sL h0 1 1 (I t.part) (isAgg3 _) ?_
  refine pu2 ?_
  refine sN 21 t.part 0 (fun a2=>?_) (fun a2=>?_)
  ·refine pu5<|nT<|cFf<|kT ?_
   exact ⟨(),alA,h0,⟨p0,om⟩⟩
  refine pu1<|gY ?_
  refine sL h0 1 1 (I t.part) (isAgg3 _) ?_
  refine pu3<|nT ?_
  refine cN t.part 2 (fun b2=>?_) (fun b2=>?_)
  ·refine kT ?_
   exact ⟨(),alA,h0,⟨p0,om⟩⟩
  refine sR<|pu1 ?_
  refine sTl h0 0 [I 0,I 0,I 0,nS] sizeOf28 ?_
  intro _ a1
  refine pu1<|zR<|retC a1 0 [I 0,I 0,I 0,nS] (I 1) (isAgg28 _) (sizeOf28 _) ?_
  have hC:putC own.v t.part (⟨t.rectX0,t.rectY0,t.rectX1,t.rectY1⟩:Rct) l=1:=by unfold putC;rw [if_neg (fun h=>by have h2:=h.2;omega)]
  have c2:=(a1.drops [0,0,0])
  have d2:Sat W _ ([]::H::F):=Sat.nilc c2
  exact ⟨(⟨0,0,0,⟨none,0,0,[]⟩⟩:Plane),1,_,rfl,⟨RdT.nil (enc:=Go.E.encI) (sz:=1) fR [[]]⟩,(by unfold putT;rw [okT_n om,hC];rfl),d2⟩
 rintro _ ρ _ ⟨b1,hA⟩
 refine sR<|pu1 ?_
 refine lA b1 1 2 4 (isAgg24 _) (sizeOf24 _) ?_
 refine sAlloc b1 zeroValue24 ?_
 intro e0 _ e2
 refine sTl e2 0 [I t.rectX0,I t.rectY0,I t.rectX1,I t.rectY1] sizeOf24 ?_
 intro _ m0
 refine nT ?_
 refine cutA (γ:=Unit) (fun _=>[(2, .slice al nl kl),(3,Pt f0 0),(6,Pt g0 0),(8,Pt e0 0)]) (fun _ w=>Sat W w ([(e0, .cells #[I t.rectX0,I t.rectY0,I t.rectX1,I t.rectY1] 24 (0,0))]::[(g0, .cells #[I 0,I 0,I 0,nS] 28 (0,0))]::[(o0, .cells (encTask t).toArray 33 (0,0))]::[(f0, .cells (encPlane own).toArray 28 (0,0))]::H::F)/\(rIn (⟨t.rectX0,t.rectY0,t.rectX1,t.rectY1⟩:Rct) own.w own.h/\(nl:Int)=(t.rectX1-t.rectX0)*(t.rectY1-t.rectY0))) ?_ ?_
 rotate_left
 ·rintro _ ρ _ ⟨f2,hB⟩
  refine seqE<|seqE ?_
  have hsz:=(plane_sz hA.1).1;unfold sizeP at hsz;simp only [Plane.v] at hsz;obtain ⟨hri,hnl⟩:=hB;have hri0:=hri;unfold rIn at hri0;dsimp only at hri0;have hra:=rIn_area hri (by first|omega|assumption);dsimp only at hra
  refine rE<|pu3<|nT<|blockE ?_
  refine loopA (γ:=Nat) (fun i=>[(2, .slice al nl kl),(3,Pt f0 0),(6,Pt g0 0),(8,Pt e0 0),(47, .slice al nl kl),(48,I (nl:Int)),(49,I (i:Int))]) (fun i w=>Sat W w ([(e0, .cells #[I t.rectX0,I t.rectY0,I t.rectX1,I t.rectY1] 24 (0,0))]::[(g0, .cells #[I 0,I 0,I 0,nS] 28 (0,0))]::[(o0, .cells (encTask t).toArray 33 (0,0))]::[(f0, .cells (encPlane own).toArray 28 (0,0))]::H::F)/\i<=nl/\((l.take i).all (fun v=>decide (0<=v/\v<=own.max_))=true)) (fun i=>nl-i) 0 ⟨f2,om,by rfl⟩ ?_
  rintro i ρ _ ⟨a0,hi,hE⟩
  refine sR<|pu1<|nT<|seqE ?_
  refine cD ((i:Int)<(nl:Int)) (fun g2=>?_) (fun g2=>?_)
  ·refine kT<|seqE<|blockE<|sR ?_
   refine sIdx hl (i:Int) runUnderlying22 sizeOf3 ?_
   intro r0 _ _ q0 i2
   rw [Int.toNat_natCast] at q0
   refine sLp a0 (i2.up 4 rfl) 0 (I r0) (isAgg3 _) ?_
   refine pu1<|zS<|pu3 ?_
   refine sD 55 (r0<0) (fun j2=>?_) (fun j2=>?_)
   ·refine pu5<|zC<|pu1 ?_
    refine sTl a0 1 [I 0,I 0,I 0,nS] sizeOf28 ?_
    intro _ c1
    refine pu1<|zB<|tR<|tK<|retC c1 1 [I 0,I 0,I 0,nS] (I 2) (isAgg28 _) (sizeOf28 _) ?_
    have hC:putC own.v t.part (⟨t.rectX0,t.rectY0,t.rectX1,t.rectY1⟩:Rct) l=2:=by unfold putC;rw [if_pos hA,if_pos ⟨hri,by dsimp only;omega⟩,if_neg (show ¬inM own.v.max_ l=true from inM_f (m:=own.max_) q0 om)]
    have k2:=(c1.drops [0,0,0,0])
    have l2:Sat W _ ([]::H::F):=Sat.nilc k2
    exact ⟨(⟨0,0,0,⟨none,0,0,[]⟩⟩:Plane),2,_,rfl,⟨RdT.nil (enc:=Go.E.encI) (sz:=1) fR [[]]⟩,(by unfold putT;rw [okT_n om,hC];rfl),l2⟩
   refine pu2<|gY ?_
   refine sL a0 3 2 (I own.max_) (isAgg3 _) ?_
   refine pu2<|nT ?_
   refine cD (r0>own.max_) (fun m2=>?_) (fun m2=>?_)
   rotate_left
   ·refine skipE<|bN<|tN<|rE ?_
    refine sAdd (i:Int) 1 ?_
    refine pu1<|nT ?_
    exact ⟨i+1,od,alA,a0,om,all_succ hE q0 (decide_eq_true om)⟩
   refine sR<|pu1 ?_
   refine sTl a0 1 [I 0,I 0,I 0,nS] sizeOf28 ?_
   intro _ d1
   refine pu1<|zB<|tR<|tK<|retC d1 1 [I 0,I 0,I 0,nS] (I 2) (isAgg28 _) (sizeOf28 _) ?_
   have hC:putC own.v t.part (⟨t.rectX0,t.rectY0,t.rectX1,t.rectY1⟩:Rct) l=2:=by unfold putC;rw [if_pos hA,if_pos ⟨hri,by dsimp only;omega⟩,if_neg (show ¬inM own.v.max_ l=true from inM_f (m:=own.max_) q0 om)]
   have n2:=(d1.drops [0,0,0,0])
   have o2:Sat W _ ([]::H::F):=Sat.nilc n2
   exact ⟨(⟨0,0,0,⟨none,0,0,[]⟩⟩:Plane),2,_,rfl,⟨RdT.nil (enc:=Go.E.encI) (sz:=1) fR [[]]⟩,(by unfold putT;rw [okT_n om,hC];rfl),o2⟩
  refine exitE<|xB<|tN<|sR<|pu1 ?_
  refine sL a0 0 2 (I t.rectX1) (isAgg3 _) ?_
  refine pu1 ?_
  refine sL a0 0 0 (I t.rectX0) (isAgg3 _) ?_
  refine sSub t.rectX1 t.rectX0 ?_
  refine pu1 ?_
  refine sL a0 0 3 (I t.rectY1) (isAgg3 _) ?_
  refine pu1 ?_
  refine sL a0 0 1 (I t.rectY0) (isAgg3 _) ?_
  refine sSub t.rectY1 t.rectY0 ?_
  refine pu1 ?_
  refine sL a0 3 2 (I own.max_) (isAgg3 _) ?_
  refine pu2 ?_
  refine sAlloc a0 zeroValue28 ?_
  intro _ _ q2
  refine sTl q2 0 [I (t.rectX1-t.rectX0),I (t.rectY1-t.rectY0),I own.max_, .slice al nl kl] sizeOf28 ?_
  intro _ n0
  refine nT<|seqE ?_
  have hin:inM own.max_ l=true:=all_of_take hE om
  have hqp:planeOK (⟨t.rectX1-t.rectX0,t.rectY1-t.rectY0,own.max_,⟨al,nl,kl,l⟩⟩:Plane).v=true:=plane_mk (by unfold sizeP;simp only [Plane.v];omega) (by simp only [Plane.v];omega) (fun z hz=>of_decide_eq_true (List.all_eq_true.1 hin z hz));have hpo:=hA.1
  refine rE ?_
  refine lA n0 4 0 4 (isAgg28 _) (sizeOf28 _) ?_
  refine lA n0 0 0 4 (isAgg28 _) (sizeOf28 _) ?_
  refine pu1 ?_
  refine sL n0 1 0 (I t.rectX0) (isAgg3 _) ?_
  refine pu1 ?_
  refine sL n0 1 1 (I t.rectY0) (isAgg3 _) ?_
  refine cX call23 (p4_blit own (⟨(t.rectX1-t.rectX0),(t.rectY1-t.rectY0),own.max_,⟨al,nl,kl,l⟩⟩:Plane) t.rectX0 t.rectY0 ⟨(RdT.flat (hown.pix.up 5 (by rfl)))⟩ ⟨(RdT.flat (hl.up 5 (by rfl)))⟩ hpo hqp (by dsimp only;omega) (by dsimp only;omega) n0.flat) ?_
  rintro _ _ ⟨b0,_,rfl,s0,r2,s2⟩
  have t2:=s2.unflat1
  have hn_q_134_pix:=s0.pix.len;have hl_q_134_pix:=s0.pix.le
  refine pu3 ?_
  refine sAlloc t2 zeroValue28 ?_
  intro _ _ u2
  refine sTl u2 0 (encPlane b0) sizeOf28 ?_
  intro _ e1
  refine pu1<|zQ<|pu2<|nT<|cFf<|kS ?_
  refine lA e1 0 0 4 (isAgg28 _) (sizeOf28 _) ?_
  refine sTl e1 4 (encPlane b0) sizeOf28 ?_
  intro _ f1
  refine pu1<|zE<|retC f1 4 (encPlane b0) (I 0) (isAgg28 _) (sizeOf28 _) ?_
  have hC:putC own.v t.part (⟨t.rectX0,t.rectY0,t.rectX1,t.rectY1⟩:Rct) l=0:=by unfold putC;rw [if_pos hA,if_pos ⟨hri,by dsimp only;omega⟩,if_pos (show inM own.v.max_ l=true from hin)]
  have hq9:=r2;dsimp only at hq9;rw [show t.rectX0+(t.rectX1-t.rectX0)=t.rectX1 by omega,show t.rectY0+(t.rectY1-t.rectY0)=t.rectY1 by omega] at hq9
  exact ⟨(⟨b0.w,b0.h,b0.max_,⟨b0.pix.a,b0.pix.n,b0.pix.k,b0.pix.l⟩⟩:Plane),0,_,rfl,⟨s0.pix⟩,(by unfold putT;rw [okT_0 hC,hq9];rfl),(f1.drops [0,1,1,1,1,1])⟩
 refine seqE ?_
 refine drawP [1,3,4,5,6,12,13] [(0,⟨e0,0,none⟩,I t.rectX0),(0,⟨e0,1,none⟩,I t.rectY0),(0,⟨e0,2,none⟩,I t.rectX1),(0,⟨e0,3,none⟩,I t.rectY1)] (Plan.sts [0]<| .ef 1<|Plan.sts [2]<| .fk 3 4 (.ef 4<| .ef 5<| .ef 6<|Plan.sts [7]<|Plan.sts [8]<|Plan.sts [9]<|Plan.sts [10]<|Plan.sts [11]<| .ef 12<| .ef 13<|Plan.sts [14]<|Plan.sts [15]<| .fin) (.fk 3 5 (.ef 5<| .ef 6<|Plan.sts [7]<|Plan.sts [8]<|Plan.sts [9]<|Plan.sts [10]<|Plan.sts [11]<| .ef 12<| .ef 13<|Plan.sts [14]<|Plan.sts [15]<| .fin) (.ef 3<| .ef 6<|Plan.sts [7]<|Plan.sts [8]<|Plan.sts [9]<|Plan.sts [10]<|Plan.sts [11]<| .ef 12<| .ef 13<|Plan.sts [14]<|Plan.sts [15]<| .fin))) rfl kr ⟨cI m0 0,cI m0 0,cI m0 0,cI m0 0,trivial⟩ ?_
 have w2:=m0.drew
 refine qY (.agg #[I t.rectX0,I t.rectY0,I t.rectX1,I t.rectY1]) rfl (fun w hF=>Y_loadF rfl (isAgg24 w) (sizeOf24 w) kr rfl ⟨hF 0 _ _ rfl,hF 1 _ _ rfl,hF 2 _ _ rfl,hF 3 _ _ rfl,trivial⟩) ?_
 refine qO rfl ?_
 refine cR call19 (p2_empty (⟨t.rectX0,t.rectY0,t.rectX1,t.rectY1⟩:Rct) w2.flat) ?_
 intro _ c0
 refine nilO ⟨dA,?_⟩
 refine qU [2] ?_
 refine qF ?_ ?_
 ·rcases Classical.em ((⟨t.rectX0,t.rectY0,t.rectX1,t.rectY1⟩:Rct).x0=0/\(⟨t.rectX0,t.rectY0,t.rectX1,t.rectY1⟩:Rct).y0=0/\(⟨t.rectX0,t.rectY0,t.rectX1,t.rectY1⟩:Rct).x1=0/\(⟨t.rectX0,t.rectY0,t.rectX1,t.rectY1⟩:Rct).y1=0) with i0|i0
  ·refine qFix 32 _ true (decide_eq_true i0) ?_
   refine qO rfl ?_
   refine pu1 ?_
   refine nilO ⟨dA,?_⟩
   refine qO rfl ?_
   refine pu1 ?_
   refine nilO ⟨dA,?_⟩
   refine qO rfl ?_
   refine pu1 ?_
   refine nilO ⟨dA,?_⟩
   refine qO rfl ?_
   refine pu1 ?_
   refine nilO ⟨dA,?_⟩
   refine qU [7]<|qU [8]<|qU [9]<|qU [10]<|qU [11] ?_
   refine qO rfl ?_
   refine pu1 ?_
   refine nilO ⟨dA,?_⟩
   refine qO rfl ?_
   refine pu1 ?_
   refine nilO ⟨dA,?_⟩
   refine qU [14]<|qU [15] ?_
   refine qN ?_
   refine tN<|cTt<|sR<|pu1 ?_
   refine sTl c0 1 [I 0,I 0,I 0,nS] sizeOf28 ?_
   intro _ g1
   refine pu1<|zR<|retC g1 1 [I 0,I 0,I 0,nS] (I 8) (isAgg28 _) (sizeOf28 _) ?_
   have hC:putC own.v t.part (⟨t.rectX0,t.rectY0,t.rectX1,t.rectY1⟩:Rct) l=8:=by unfold putC;rw [if_pos hA,if_neg (fun h=>by have hsz:=(plane_sz hA.1).1;unfold sizeP at hsz;simp only [Plane.v] at hsz;have h2:=(ins_in om om).2 (show rIn (⟨t.rectX0,t.rectY0,t.rectX1,t.rectY1⟩:Rct) own.w own.h from h.1);exact h2.1 i0)]
   have x2:=(g1.drops [0,0,0,0])
   have y2:Sat W _ ([]::H::F):=Sat.nilc x2
   exact ⟨(⟨0,0,0,⟨none,0,0,[]⟩⟩:Plane),8,_,rfl,⟨RdT.nil (enc:=Go.E.encI) (sz:=1) fR [[]]⟩,(by unfold putT;rw [okT_n om,hC];rfl),y2⟩
  refine qFix 32 _ false (decide_eq_false i0) ?_
  refine qO rfl ?_
  refine gY ?_
  refine lA c0 0 0 4 (isAgg24 _) (sizeOf24 _) ?_
  refine nilO ⟨dA,?_⟩
  refine qO rfl ?_
  refine gY ?_
  refine lA c0 3 0 4 (isAgg28 _) (sizeOf28 _) ?_
  refine nilO ⟨dA,?_⟩
  refine qO rfl ?_
  refine gY ?_
  refine cR call21 (p21_whole own ⟨(RdT.flat (hown.pix.up 4 (by rfl)))⟩ c0.flat) ?_
  intro _ z2
  refine nilO ⟨dA,?_⟩
  refine qO rfl ?_
  refine gY ?_
  refine cR call20 (p2_inside (⟨t.rectX0,t.rectY0,t.rectX1,t.rectY1⟩:Rct) (⟨0,0,own.w,own.h⟩:Rct) z2.flat) ?_
  intro _ t0
  refine nilO ⟨dA,?_⟩
  refine qU [7]<|qU [8]<|qU [9] ?_
  rcases Classical.em (insP (⟨t.rectX0,t.rectY0,t.rectX1,t.rectY1⟩:Rct) (⟨0,0,own.w,own.h⟩:Rct)) with j0|j0
  rotate_left
  ·refine qFix 39 _ true (congrArg Bool.not (decide_eq_false j0)) ?_
   refine qU [10]<|qU [11] ?_
   refine qO rfl ?_
   refine pu1 ?_
   refine nilO ⟨dA,?_⟩
   refine qO rfl ?_
   refine pu1 ?_
   refine nilO ⟨dA,?_⟩
   refine qU [14]<|qU [15] ?_
   refine qN ?_
   refine tN<|cTt<|sR<|pu1 ?_
   refine sTl t0 1 [I 0,I 0,I 0,nS] sizeOf28 ?_
   intro _ h1
   refine pu1<|zR<|retC h1 1 [I 0,I 0,I 0,nS] (I 8) (isAgg28 _) (sizeOf28 _) ?_
   have hC:putC own.v t.part (⟨t.rectX0,t.rectY0,t.rectX1,t.rectY1⟩:Rct) l=8:=by unfold putC;rw [if_pos hA,if_neg (fun h=>by have hsz:=(plane_sz hA.1).1;unfold sizeP at hsz;simp only [Plane.v] at hsz;have h2:=(ins_in om om).2 (show rIn (⟨t.rectX0,t.rectY0,t.rectX1,t.rectY1⟩:Rct) own.w own.h from h.1);exact j0 h2.2)]
   have a3:=(h1.drops [0,0,0,0])
   have b3:Sat W _ ([]::H::F):=Sat.nilc a3
   exact ⟨(⟨0,0,0,⟨none,0,0,[]⟩⟩:Plane),8,_,rfl,⟨RdT.nil (enc:=Go.E.encI) (sz:=1) fR [[]]⟩,(by unfold putT;rw [okT_n om,hC];rfl),b3⟩
  refine qFix 39 _ false (congrArg Bool.not (decide_eq_true j0)) ?_
  refine qU [10]<|qU [11] ?_
  refine qO rfl ?_
  refine gY ?_
  refine lA t0 0 0 4 (isAgg24 _) (sizeOf24 _) ?_
  refine nilO ⟨dA,?_⟩
  refine qO rfl ?_
  refine gY ?_
  refine cR call22 (p2_area (⟨t.rectX0,t.rectY0,t.rectX1,t.rectY1⟩:Rct) (by have hsz:=(plane_sz hA.1).1;unfold sizeP at hsz;simp only [Plane.v] at hsz;have h:=(ins_in om om).1 ⟨i0,j0⟩;unfold rIn at h⊢;dsimp only at h⊢;omega) t0.flat) ?_
  intro _ i1
  refine nilO ⟨dA,?_⟩
  refine qU [14]<|qU [15] ?_
  refine qN ?_
  refine tN ?_
  refine cN (nl:Int) (((⟨t.rectX0,t.rectY0,t.rectX1,t.rectY1⟩:Rct).x1-(⟨t.rectX0,t.rectY0,t.rectX1,t.rectY1⟩:Rct).x0)*((⟨t.rectX0,t.rectY0,t.rectX1,t.rectY1⟩:Rct).y1-(⟨t.rectX0,t.rectY0,t.rectX1,t.rectY1⟩:Rct).y0)) (fun c3=>?_) (fun c3=>?_)
  ·refine kT ?_
   exact ⟨(),alA,i1,⟨by have hsz:=(plane_sz hA.1).1;unfold sizeP at hsz;simp only [Plane.v] at hsz;exact (ins_in om om).1 ⟨i0,j0⟩,om⟩⟩
  refine sR<|pu1 ?_
  refine sTl i1 1 [I 0,I 0,I 0,nS] sizeOf28 ?_
  intro _ j1
  refine pu1<|zR<|retC j1 1 [I 0,I 0,I 0,nS] (I 8) (isAgg28 _) (sizeOf28 _) ?_
  have hC:putC own.v t.part (⟨t.rectX0,t.rectY0,t.rectX1,t.rectY1⟩:Rct) l=8:=by unfold putC;rw [if_pos hA,if_neg (fun h=>by have h2:=h.2;dsimp only at h2;omega)]
  have d3:=(j1.drops [0,0,0,0])
  have e3:Sat W _ ([]::H::F):=Sat.nilc d3
  exact ⟨(⟨0,0,0,⟨none,0,0,[]⟩⟩:Plane),8,_,rfl,⟨RdT.nil (enc:=Go.E.encI) (sz:=1) fR [[]]⟩,(by unfold putT;rw [okT_n om,hC];rfl),e3⟩
 rcases Classical.em ((⟨t.rectX0,t.rectY0,t.rectX1,t.rectY1⟩:Rct).x0=0/\(⟨t.rectX0,t.rectY0,t.rectX1,t.rectY1⟩:Rct).y0=0/\(⟨t.rectX0,t.rectY0,t.rectX1,t.rectY1⟩:Rct).x1=0/\(⟨t.rectX0,t.rectY0,t.rectX1,t.rectY1⟩:Rct).y1=0) with d0|d0
 ·refine qFix 32 _ true (decide_eq_true d0) ?_
  refine qO rfl ?_
  refine pu1 ?_
  refine nilO ⟨dA,?_⟩
  refine qF ?_ ?_
  rotate_left
  ·refine qO rfl ?_
   refine pu1 ?_
   refine nilO ⟨dA,?_⟩
   refine qO rfl ?_
   refine pu1 ?_
   refine nilO ⟨dA,?_⟩
   refine qO rfl ?_
   refine pu1 ?_
   refine nilO ⟨dA,?_⟩
   refine qU [7]<|qU [8]<|qU [9]<|qU [10]<|qU [11] ?_
   refine qO rfl ?_
   refine pu1 ?_
   refine nilO ⟨dA,?_⟩
   refine qO rfl ?_
   refine pu1 ?_
   refine nilO ⟨dA,?_⟩
   refine qU [14]<|qU [15] ?_
   refine qN ?_
   refine tN<|cTt<|sR<|pu1 ?_
   refine sTl c0 1 [I 0,I 0,I 0,nS] sizeOf28 ?_
   intro _ k1
   refine pu1<|zR<|retC k1 1 [I 0,I 0,I 0,nS] (I 8) (isAgg28 _) (sizeOf28 _) ?_
   have hC:putC own.v t.part (⟨t.rectX0,t.rectY0,t.rectX1,t.rectY1⟩:Rct) l=8:=by unfold putC;rw [if_pos hA,if_neg (fun h=>by have hsz:=(plane_sz hA.1).1;unfold sizeP at hsz;simp only [Plane.v] at hsz;have h2:=(ins_in om om).2 (show rIn (⟨t.rectX0,t.rectY0,t.rectX1,t.rectY1⟩:Rct) own.w own.h from h.1);exact h2.1 d0)]
   have f3:=(k1.drops [0,0,0,0])
   have g3:Sat W _ ([]::H::F):=Sat.nilc f3
   exact ⟨(⟨0,0,0,⟨none,0,0,[]⟩⟩:Plane),8,_,rfl,⟨RdT.nil (enc:=Go.E.encI) (sz:=1) fR [[]]⟩,(by unfold putT;rw [okT_n om,hC];rfl),g3⟩
  refine qO rfl ?_
  refine pu1 ?_
  refine nilO ⟨dA,?_⟩
  refine qO rfl ?_
  refine pu1 ?_
  refine nilO ⟨dA,?_⟩
  refine qO rfl ?_
  refine pu1 ?_
  refine nilO ⟨dA,?_⟩
  refine qU [7]<|qU [8]<|qU [9]<|qU [10]<|qU [11] ?_
  refine qO rfl ?_
  refine pu1 ?_
  refine nilO ⟨dA,?_⟩
  refine qO rfl ?_
  refine pu1 ?_
  refine nilO ⟨dA,?_⟩
  refine qU [14]<|qU [15] ?_
  refine qN ?_
  refine tN<|cTt<|sR<|pu1 ?_
  refine sTl c0 1 [I 0,I 0,I 0,nS] sizeOf28 ?_
  intro _ l1
  refine pu1<|zR<|retC l1 1 [I 0,I 0,I 0,nS] (I 8) (isAgg28 _) (sizeOf28 _) ?_
  have hC:putC own.v t.part (⟨t.rectX0,t.rectY0,t.rectX1,t.rectY1⟩:Rct) l=8:=by unfold putC;rw [if_pos hA,if_neg (fun h=>by have hsz:=(plane_sz hA.1).1;unfold sizeP at hsz;simp only [Plane.v] at hsz;have h2:=(ins_in om om).2 (show rIn (⟨t.rectX0,t.rectY0,t.rectX1,t.rectY1⟩:Rct) own.w own.h from h.1);exact h2.1 d0)]
  have h3:=(l1.drops [0,0,0,0])
  have i3:Sat W _ ([]::H::F):=Sat.nilc h3
  exact ⟨(⟨0,0,0,⟨none,0,0,[]⟩⟩:Plane),8,_,rfl,⟨RdT.nil (enc:=Go.E.encI) (sz:=1) fR [[]]⟩,(by unfold putT;rw [okT_n om,hC];rfl),i3⟩
 refine qFix 32 _ false (decide_eq_false d0) ?_
 refine qO rfl ?_
 refine gY ?_
 refine lA c0 3 0 4 (isAgg28 _) (sizeOf28 _) ?_
 refine nilO ⟨dA,?_⟩
 refine qF ?_ ?_
 ·refine qO rfl ?_
  refine gY ?_
  refine lA c0 0 0 4 (isAgg24 _) (sizeOf24 _) ?_
  refine nilO ⟨dA,?_⟩
  refine qO rfl ?_
  refine gY ?_
  refine cR call21 (p21_whole own ⟨(RdT.flat (hown.pix.up 4 (by rfl)))⟩ c0.flat) ?_
  intro _ j3
  refine nilO ⟨dA,?_⟩
  refine qO rfl ?_
  refine gY ?_
  refine cR call20 (p2_inside (⟨t.rectX0,t.rectY0,t.rectX1,t.rectY1⟩:Rct) (⟨0,0,own.w,own.h⟩:Rct) j3.flat) ?_
  intro _ u0
  refine nilO ⟨dA,?_⟩
  refine qU [7]<|qU [8]<|qU [9] ?_
  rcases Classical.em (insP (⟨t.rectX0,t.rectY0,t.rectX1,t.rectY1⟩:Rct) (⟨0,0,own.w,own.h⟩:Rct)) with k0|k0
  rotate_left
  ·refine qFix 39 _ true (congrArg Bool.not (decide_eq_false k0)) ?_
   refine qU [10]<|qU [11] ?_
   refine qO rfl ?_
   refine pu1 ?_
   refine nilO ⟨dA,?_⟩
   refine qO rfl ?_
   refine pu1 ?_
   refine nilO ⟨dA,?_⟩
   refine qU [14]<|qU [15] ?_
   refine qN ?_
   refine tN<|cTt<|sR<|pu1 ?_
   refine sTl u0 1 [I 0,I 0,I 0,nS] sizeOf28 ?_
   intro _ m1
   refine pu1<|zR<|retC m1 1 [I 0,I 0,I 0,nS] (I 8) (isAgg28 _) (sizeOf28 _) ?_
   have hC:putC own.v t.part (⟨t.rectX0,t.rectY0,t.rectX1,t.rectY1⟩:Rct) l=8:=by unfold putC;rw [if_pos hA,if_neg (fun h=>by have hsz:=(plane_sz hA.1).1;unfold sizeP at hsz;simp only [Plane.v] at hsz;have h2:=(ins_in om om).2 (show rIn (⟨t.rectX0,t.rectY0,t.rectX1,t.rectY1⟩:Rct) own.w own.h from h.1);exact k0 h2.2)]
   have k3:=(m1.drops [0,0,0,0])
   have l3:Sat W _ ([]::H::F):=Sat.nilc k3
   exact ⟨(⟨0,0,0,⟨none,0,0,[]⟩⟩:Plane),8,_,rfl,⟨RdT.nil (enc:=Go.E.encI) (sz:=1) fR [[]]⟩,(by unfold putT;rw [okT_n om,hC];rfl),l3⟩
  refine qFix 39 _ false (congrArg Bool.not (decide_eq_true k0)) ?_
  refine qU [10]<|qU [11] ?_
  refine qO rfl ?_
  refine gY ?_
  refine lA u0 0 0 4 (isAgg24 _) (sizeOf24 _) ?_
  refine nilO ⟨dA,?_⟩
  refine qO rfl ?_
  refine gY ?_
  refine cR call22 (p2_area (⟨t.rectX0,t.rectY0,t.rectX1,t.rectY1⟩:Rct) (by have hsz:=(plane_sz hA.1).1;unfold sizeP at hsz;simp only [Plane.v] at hsz;have h:=(ins_in om om).1 ⟨d0,k0⟩;unfold rIn at h⊢;dsimp only at h⊢;omega) u0.flat) ?_
  intro _ n1
  refine nilO ⟨dA,?_⟩
  refine qU [14]<|qU [15] ?_
  refine qN ?_
  refine tN ?_
  refine cN (nl:Int) (((⟨t.rectX0,t.rectY0,t.rectX1,t.rectY1⟩:Rct).x1-(⟨t.rectX0,t.rectY0,t.rectX1,t.rectY1⟩:Rct).x0)*((⟨t.rectX0,t.rectY0,t.rectX1,t.rectY1⟩:Rct).y1-(⟨t.rectX0,t.rectY0,t.rectX1,t.rectY1⟩:Rct).y0)) (fun m3=>?_) (fun m3=>?_)
  ·refine kT ?_
   exact ⟨(),alA,n1,⟨by have hsz:=(plane_sz hA.1).1;unfold sizeP at hsz;simp only [Plane.v] at hsz;exact (ins_in om om).1 ⟨d0,k0⟩,om⟩⟩
  refine sR<|pu1 ?_
  refine sTl n1 1 [I 0,I 0,I 0,nS] sizeOf28 ?_
  intro _ o1
  refine pu1<|zR<|retC o1 1 [I 0,I 0,I 0,nS] (I 8) (isAgg28 _) (sizeOf28 _) ?_
  have hC:putC own.v t.part (⟨t.rectX0,t.rectY0,t.rectX1,t.rectY1⟩:Rct) l=8:=by unfold putC;rw [if_pos hA,if_neg (fun h=>by have h2:=h.2;dsimp only at h2;omega)]
  have n3:=(o1.drops [0,0,0,0])
  have o3:Sat W _ ([]::H::F):=Sat.nilc n3
  exact ⟨(⟨0,0,0,⟨none,0,0,[]⟩⟩:Plane),8,_,rfl,⟨RdT.nil (enc:=Go.E.encI) (sz:=1) fR [[]]⟩,(by unfold putT;rw [okT_n om,hC];rfl),o3⟩
 refine qO rfl ?_
 refine gY ?_
 refine cR call21 (p21_whole own ⟨(RdT.flat (hown.pix.up 4 (by rfl)))⟩ c0.flat) ?_
 intro _ q1
 refine nilO ⟨dA,?_⟩
 refine qO rfl ?_
 refine gY ?_
 refine lA q1 0 0 4 (isAgg24 _) (sizeOf24 _) ?_
 refine nilO ⟨dA,?_⟩
 refine qO rfl ?_
 refine gY ?_
 refine cR call20 (p2_inside (⟨t.rectX0,t.rectY0,t.rectX1,t.rectY1⟩:Rct) (⟨0,0,own.w,own.h⟩:Rct) q1.flat) ?_
 intro _ v0
 refine nilO ⟨dA,?_⟩
 refine qU [7]<|qU [8]<|qU [9] ?_
 rcases Classical.em (insP (⟨t.rectX0,t.rectY0,t.rectX1,t.rectY1⟩:Rct) (⟨0,0,own.w,own.h⟩:Rct)) with l0|l0
 rotate_left
 ·refine qFix 39 _ true (congrArg Bool.not (decide_eq_false l0)) ?_
  refine qU [10]<|qU [11] ?_
  refine qO rfl ?_
  refine pu1 ?_
  refine nilO ⟨dA,?_⟩
  refine qO rfl ?_
  refine pu1 ?_
  refine nilO ⟨dA,?_⟩
  refine qU [14]<|qU [15] ?_
  refine qN ?_
  refine tN<|cTt<|sR<|pu1 ?_
  refine sTl v0 1 [I 0,I 0,I 0,nS] sizeOf28 ?_
  intro _ r1
  refine pu1<|zR<|retC r1 1 [I 0,I 0,I 0,nS] (I 8) (isAgg28 _) (sizeOf28 _) ?_
  have hC:putC own.v t.part (⟨t.rectX0,t.rectY0,t.rectX1,t.rectY1⟩:Rct) l=8:=by unfold putC;rw [if_pos hA,if_neg (fun h=>by have hsz:=(plane_sz hA.1).1;unfold sizeP at hsz;simp only [Plane.v] at hsz;have h2:=(ins_in om om).2 (show rIn (⟨t.rectX0,t.rectY0,t.rectX1,t.rectY1⟩:Rct) own.w own.h from h.1);exact l0 h2.2)]
  have p3:=(r1.drops [0,0,0,0])
  have q3:Sat W _ ([]::H::F):=Sat.nilc p3
  exact ⟨(⟨0,0,0,⟨none,0,0,[]⟩⟩:Plane),8,_,rfl,⟨RdT.nil (enc:=Go.E.encI) (sz:=1) fR [[]]⟩,(by unfold putT;rw [okT_n om,hC];rfl),q3⟩
 refine qFix 39 _ false (congrArg Bool.not (decide_eq_true l0)) ?_
 refine qU [10]<|qU [11] ?_
 refine qO rfl ?_
 refine gY ?_
 refine lA v0 0 0 4 (isAgg24 _) (sizeOf24 _) ?_
 refine nilO ⟨dA,?_⟩
 refine qO rfl ?_
 refine gY ?_
 refine cR call22 (p2_area (⟨t.rectX0,t.rectY0,t.rectX1,t.rectY1⟩:Rct) (by have hsz:=(plane_sz hA.1).1;unfold sizeP at hsz;simp only [Plane.v] at hsz;have h:=(ins_in om om).1 ⟨d0,l0⟩;unfold rIn at h⊢;dsimp only at h⊢;omega) v0.flat) ?_
 intro _ s1
 refine nilO ⟨dA,?_⟩
 refine qU [14]<|qU [15] ?_
 refine qN ?_
 refine tN ?_
 refine cN (nl:Int) (((⟨t.rectX0,t.rectY0,t.rectX1,t.rectY1⟩:Rct).x1-(⟨t.rectX0,t.rectY0,t.rectX1,t.rectY1⟩:Rct).x0)*((⟨t.rectX0,t.rectY0,t.rectX1,t.rectY1⟩:Rct).y1-(⟨t.rectX0,t.rectY0,t.rectX1,t.rectY1⟩:Rct).y0)) (fun r3=>?_) (fun r3=>?_)
 ·refine kT ?_
  exact ⟨(),alA,s1,⟨by have hsz:=(plane_sz hA.1).1;unfold sizeP at hsz;simp only [Plane.v] at hsz;exact (ins_in om om).1 ⟨d0,l0⟩,om⟩⟩
 refine sR<|pu1 ?_
 refine sTl s1 1 [I 0,I 0,I 0,nS] sizeOf28 ?_
 intro _ t1
 refine pu1<|zR<|retC t1 1 [I 0,I 0,I 0,nS] (I 8) (isAgg28 _) (sizeOf28 _) ?_
 have hC:putC own.v t.part (⟨t.rectX0,t.rectY0,t.rectX1,t.rectY1⟩:Rct) l=8:=by unfold putC;rw [if_pos hA,if_neg (fun h=>by have h2:=h.2;dsimp only at h2;omega)]
 have s3:=(t1.drops [0,0,0,0])
 have t3:Sat W _ ([]::H::F):=Sat.nilc s3
 exact ⟨(⟨0,0,0,⟨none,0,0,[]⟩⟩:Plane),8,_,rfl,⟨RdT.nil (enc:=Go.E.encI) (sz:=1) fR [[]]⟩,(by unfold putT;rw [okT_n om,hC];rfl),t3⟩
end Go.Proofs.Ytmlhcafjelkjfaa
