import Derived.Test.YtmlhcafjelkjfaaP1Ab
import Derived.WalkKit
import Derived.Deep.Quiet
import Derived.KernelRfl
import Derived.Laws.BytesString
import Derived.Laws.Shifts
import Derived.Laws.IdiomStrings
import Derived.Test.YtmlhcafjelkjfaaProg
import Derived.Laws.IdiomRangeMap
import Derived.Test.YtmlhcafjelkjfaaP1Tr
namespace Go.Proofs.Ytmlhcafjelkjfaa
open Go Go.E Go.Proofs.Try
set_option linter.all false
set_option maxRecDepth 100000
set_option maxHeartbeats 2000000
variable {W w:World} {H:Chunk} {F:List Chunk}
theorem rd_nil {α:Type} {enc:α->List Value} {sz n k:Nat} {cs:List Chunk} {a:Option Addr} {xs:List α} (h:RdT enc sz cs a n k xs) (ha:a=none):xs=[]:=by
  have h1:=h.len
  by_cases hn:0<n
  · exact absurd ha (rd_some h hn)
  · cases xs with
    |nil=>rfl
    |cons x l=>simp at h1;omega
section
variable {s:StageV} {p q:PlaneV}
variable (h:planeOK p=true/\(twoP s->planeOK q=true))
include h
variable (hc:(ofV s (shpOf p) (shpOf q)).2=0)
include hc
end
theorem of_kind {s:StageV} {x y:Shape} (h:(ofV s x y).2=0):fieldsP s:=by
  unfold ofV at h
  split at h
  · assumption
  · simp at h
theorem r2_inside (a:Rct) (b:Rct) (hS:Sat W w (H::F)):
  Ro prog 26 #[.agg (encRct a).toArray, .agg (encRct b).toArray] (.bool (decide (insP a b))) W w (H::F):=by
 refine callsA 43 func26 rfl<|sR<|sBox hS (.agg (encRct a).toArray) (encRct a).toArray fun _ _ e0=>sBox e0 (.agg (encRct b).toArray) (encRct b).toArray fun _ _ d0=>pu1<|zQ<|lA d0 1 0 4 (isAgg24 _) (sizeOf24 _)<|cR call16 (r2_valid a d0.flat) fun _ b0=>pu2<|sDn 8 (rvP a) (fun f0=>?_) (fun f0=>?_)
 rotate_left
 ·exact pu4<|zC<|pu1<|zR<|retT [.bool false]<|⟨rB (by rw [Bool.eq_iff_iff];unfold insP;simp only [decide_eq_true_eq,Bool.false_eq_true,false_iff,true_iff]<;>first|omega|(simp_all;try omega)),(b0.drops [0,0])⟩
 refine gY<|lA b0 0 0 4 (isAgg24 _) (sizeOf24 _)<|gY<|cR call16 (r2_valid b b0.flat) fun _ c0=>pu2<|nT<|cDn (rvP b) (fun h0=>?_) (fun h0=>?_)
 rotate_left
 ·exact sR<|pu1<|zR<|retT [.bool false]<|⟨rB (by rw [Bool.eq_iff_iff];unfold insP;simp only [decide_eq_true_eq,Bool.false_eq_true,false_iff,true_iff]<;>first|omega|(simp_all;try omega)),(c0.drops [0,0])⟩
 refine kS<|lA c0 1 0 4 (isAgg24 _) (sizeOf24 _)<|cR call37 (r2_empty a c0.flat) fun _ a0=>pu1<|sD 15 (a.x0=0/\a.y0=0/\a.x1=0/\a.y1=0) (fun j0=>?_) (fun j0=>?_)
 ·exact pu16<|pu12<|zE<|retT [.bool true]<|⟨rB (by rw [Bool.eq_iff_iff];unfold insP;simp only [decide_eq_true_eq,Bool.false_eq_true,false_iff,true_iff]<;>first|omega|(simp_all;try omega)),(a0.drops [0,0])⟩
 refine pu1<|gY<|sL a0 1 0 (I a.x0) (isAgg3 _)<|pu1<|gY<|sL a0 0 0 (I b.x0) (isAgg3 _)<|pu2<|sD 21 (a.x0>=b.x0) (fun l0=>?_) (fun l0=>?_)
 rotate_left
 ·exact pu16<|pu6<|zE<|retT [.bool false]<|⟨rB (by rw [Bool.eq_iff_iff];unfold insP;simp only [decide_eq_true_eq,Bool.false_eq_true,false_iff,true_iff]<;>first|omega|(simp_all;try omega)),(a0.drops [0,0])⟩
 refine pu1<|gY<|sL a0 1 1 (I a.y0) (isAgg3 _)<|pu1<|gY<|sL a0 0 1 (I b.y0) (isAgg3 _)<|pu3<|sD 28 (a.y0>=b.y0) (fun n0=>?_) (fun n0=>?_)
 rotate_left
 ·exact pu15<|zE<|retT [.bool false]<|⟨rB (by rw [Bool.eq_iff_iff];unfold insP;simp only [decide_eq_true_eq,Bool.false_eq_true,false_iff,true_iff]<;>first|omega|(simp_all;try omega)),(a0.drops [0,0])⟩
 refine pu1<|gY<|sL a0 1 2 (I a.x1) (isAgg3 _)<|pu1<|gY<|sL a0 0 2 (I b.x1) (isAgg3 _)<|pu3<|sD 35 (a.x1<=b.x1) (fun p0=>?_) (fun p0=>?_)
 rotate_left
 ·exact pu8<|zE<|retT [.bool false]<|⟨rB (by rw [Bool.eq_iff_iff];unfold insP;simp only [decide_eq_true_eq,Bool.false_eq_true,false_iff,true_iff]<;>first|omega|(simp_all;try omega)),(a0.drops [0,0])⟩
 exact pu1<|gY<|sL a0 1 3 (I a.y1) (isAgg3 _)<|pu1<|gY<|sL a0 0 3 (I b.y1) (isAgg3 _)<|pu4<|zE<|retT [.bool (decide ((a.y1:Int)<=b.y1))]<|⟨rB (by rw [Bool.eq_iff_iff];unfold insP;simp only [decide_eq_true_eq,Bool.false_eq_true,false_iff,true_iff]<;>first|omega|(simp_all;try omega)),(a0.drops [0,0])⟩
theorem r4_cover (p:Plane) (hp:Plane.Ok [H] p) (hS:Sat W w (H::F)):
  Ro prog 27 #[.agg (encPlane p).toArray] (.agg #[I 0,I 0,I p.w,I p.h]) W w (H::F):=by
 have hl_p_pix:=hp.pix.le;have hn_p_pix:=hp.pix.len
 exact callsA 8 func27 rfl<|sR<|sBox hS (.agg (encPlane p).toArray) (encPlane p).toArray fun _ _ c0=>sAlloc c0 zeroValue24 fun _ _ a0=>zS<|pu1<|sL a0 1 0 (I p.w) (isAgg3 _)<|pu1<|sL a0 1 1 (I p.h) (isAgg3 _)<|pu1<|sTl a0 0 [I 0,I 0,I p.w,I p.h] sizeOf24 fun _ b0=>zE<|retN (vs:=[.agg #[I 0,I 0,I p.w,I p.h]]) rfl (.cons (.cell _ _ _ _ kr (lvA b0 0 0 [I 0,I 0,I p.w,I p.h] (isAgg24 _) (sizeOf24 _) rfl rfl rfl)) .nil)<|⟨rfl,(b0.drops [0,0])⟩
end Go.Proofs.Ytmlhcafjelkjfaa
