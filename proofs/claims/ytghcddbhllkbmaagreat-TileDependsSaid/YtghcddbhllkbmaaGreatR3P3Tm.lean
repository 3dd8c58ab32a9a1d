import Derived.WalkKit
import Derived.Deep.Quiet
import Derived.KernelRfl
import Derived.Laws.BytesString
import Derived.Laws.Shifts
import Derived.Laws.IdiomStrings
import Derived.OpenShut
import Derived.Test.YtghcddbhllkbmaaGreatProg
import Derived.Laws.IdiomRangeMap
import Derived.Test.YtghcddbhllkbmaaGreatR3P3Cpy
namespace Go.Proofs.YtghcddbhllkbmaaGreat
open Go Go.E Go.Proofs.Tryz
set_option linter.all false
set_option maxRecDepth 100000
set_option maxHeartbeats 2000000
variable {W w:World} {H:Chunk} {F:List Chunk}
def sumN (f:Nat->Int) (n:Nat):Int:=((List.range n).map f).sum
theorem sumN_zero (f:Nat->Int):sumN f 0=0:=rfl
theorem sumN_succ (f:Nat->Int) (n:Nat):sumN f (n+1)=sumN f n+f n:=by unfold sumN;rw [List.range_succ,List.map_append,List.sum_append];simp
theorem sumN_congr {f g:Nat->Int}:∀n:Nat,(∀k,k<n->f k=g k)->sumN f n=sumN g n
  |0,_=>rfl
  |n+1,h=>by rw [sumN_succ,sumN_succ,sumN_congr n (fun k hk=>h k (by omega)),h n (by omega)]
theorem sumN_le {f g:Nat->Int}:∀n:Nat,(∀k,k<n->f k<=g k)->sumN f n<=sumN g n
  |0,_=>Int.le_refl _
  |n+1,h=>by rw [sumN_succ,sumN_succ];exact Int.add_le_add (sumN_le n (fun k hk=>h k (by omega))) (h n (by omega))
theorem sumN_bd {f:Nat->Int} {B:Int}:∀n:Nat,(∀k,k<n->-B<=f k/\f k<=B)->-(B*n)<=sumN f n/\sumN f n<=B*n
  |0,_=>by simp [sumN]
  |n+1,h=>by
    have ih:=sumN_bd n (fun k hk=>h k (by omega));have hn:=h n (by omega)
    rw [sumN_succ,show B*((n+1:Nat):Int)=B*n+B by push_cast;rw [Int.mul_add,Int.mul_one]]
    omega
theorem sumN_list {l:List Int} (f:Int->Int) (h0:f 0=0):∀n:Nat,n<=l.length->sumN (fun k=>f (l.getD k 0)) n=((l.take n).map f).sum
  |0,_=>by simp [sumN]
  |n+1,h=>by
    have hn:l[n]?=some (l[n]'(by omega)):=List.getElem?_eq_getElem (by omega)
    rw [sumN_succ,sumN_list f h0 n (by omega),sum_at hn,List.getD_eq_getElem?_getD,hn];rfl
def gridN (w:Int) (f:Int->Int->Int) (n:Nat):List Int:=(List.range n).map fun (k:Nat)=>f ((k:Int)%w) ((k:Int)/w)
theorem grid_len (w:Int) (f:Int->Int->Int) (n:Nat):(gridN w f n).length=n:=by simp [gridN]
theorem grid_succ {w:Nat} {f:Int->Int->Int} {i j:Nat} (hj:j<w):gridN w f (i*w+j+1)=gridN w f (i*w+j)++[f j i]:=by
  have h:=grid_ix (nx:=(w:Int)) (i:=(i:Int)) (j:=(j:Int)) (by omega)
  unfold gridN
  rw [List.range_succ,List.map_append]
  simp only [List.map_cons,List.map_nil]
  rw [show (((i*w+j:Nat):Int))=(i:Int)*(w:Int)+(j:Int) by push_cast;rfl,h.1,h.2]
theorem grid_at {w:Int} {f:Int->Int->Int} {n k:Nat} (h:k<n):(gridN w f n)[k]?=some (f ((k:Int)%w) ((k:Int)/w)):=by
  unfold gridN;rw [List.getElem?_map,List.getElem?_range h];rfl
theorem grid_congr {w:Int} {f g:Int->Int->Int} {n:Nat} (h:∀k:Nat,k<n->f ((k:Int)%w) ((k:Int)/w)=g ((k:Int)%w) ((k:Int)/w)):gridN w f n=gridN w g n:=by
  unfold gridN;exact List.map_congr_left (fun k hk=>h k (List.mem_range.1 hk))
theorem fill_set {l:List Int} {n m:Nat} {v:Int} (h:l.length=n) (hm:n<m):(l++List.replicate (m-n) 0).set n v=(l++[v])++List.replicate (m-(n+1)) 0:=by
  subst h
  obtain ⟨k,rfl⟩:∃k,m=l.length+1+k:=⟨m-l.length-1,by omega⟩
  rw [show l.length+1+k-l.length=k+1 by omega,show l.length+1+k-(l.length+1)=k by omega,List.set_append_right _ _ (Nat.le_refl _),Nat.sub_self,List.replicate_succ,List.set_cons_zero,List.append_assoc];rfl
def edgeV (pol fill mx:Int):Prop:=(pol=3/\0<=fill/\fill<=mx)\/(0<=pol/\pol<3/\fill=0)
instance (a b c:Int):Decidable (edgeV a b c):=by unfold edgeV;infer_instance
def pixV (p:PlaneV) (pol fill x y:Int):Int:=match idxV x p.w pol,idxV y p.h pol with
  |some i,some j=>p.pix.getD (j*p.w+i).toNat 0
  |_,_=>fill
def clampV (v m:Int):Int:=if v<0\/m<0 then 0 else if m<v then m else v
theorem plane_sz {p:PlaneV} (h:planeOK p=true):sizeP p.w p.h p.max_/\(p.pix.length:Int)=p.w*p.h/\∀z∈p.pix,0<=z/\z<=p.max_:=by
  unfold planeOK pixOK at h
  simp only [Bool.and_eq_true,decide_eq_true_eq,List.all_eq_true] at h
  exact ⟨h.1.1,h.1.2,h.2⟩
theorem getD_bd {l:List Int} {m:Int} (h0:0<=m) (h:∀z∈l,0<=z/\z<=m) (k:Nat):0<=l.getD k 0/\l.getD k 0<=m:=by
  rw [List.getD_eq_getElem?_getD]
  cases e:l[k]? with
  |none=>exact ⟨Int.le_refl _,h0⟩
  |some z=>exact h z (List.mem_of_getElem? e)
theorem pix_bd {p:PlaneV} {pol fill x y:Int} (h:planeOK p=true) (he:edgeV pol fill p.max_):0<=pixV p pol fill x y/\pixV p pol fill x y<=p.max_:=by
  obtain ⟨hs,hl,hp⟩:=plane_sz h
  unfold sizeP at hs
  have hf:0<=fill/\fill<=p.max_:=by unfold edgeV at he;omega
  unfold pixV
  split
  · exact getD_bd (by omega) hp _
  · exact hf
theorem pix_mx {p:PlaneV} (h:planeOK p=true):1<=p.max_/\p.max_<=4294967296:=by have:=(plane_sz h).1;unfold sizeP at this;omega
theorem idx_in {i n p:Int} (hn:1<=n/\n<=128) (hp:0<=p/\p<=3) (hi:0<=i/\i<n):idxV i n p=some i:=by
  have e1:i%(2*n)=i:=Int.emod_eq_of_lt hi.1 (by omega)
  have e2:i%n=i:=Int.emod_eq_of_lt hi.1 hi.2
  unfold idxV
  rw [if_pos hn,e1,e2]
  split
  · congr 1;omega
  · split
    · rw [if_neg (by omega)]
    · split
      · rfl
      · rw [if_pos (by omega)]
theorem pix_in {p:PlaneV} {pol fill x y:Int} (h:planeOK p=true) (he:edgeV pol fill p.max_) (hx:0<=x/\x<p.w) (hy:0<=y/\y<p.h):pixV p pol fill x y=p.pix.getD (y*p.w+x).toNat 0:=by
  have hs:=(plane_sz h).1
  unfold sizeP at hs
  unfold pixV
  rw [idx_in ⟨hs.1,hs.2.1⟩ (by unfold edgeV at he;omega) hx,idx_in (by omega) (by unfold edgeV at he;omega) hy]
theorem wmul_bd {w v B:Int} (hw:-32767<=w/\w<=32767) (hv:-B<=v/\v<=B) (hB:0<=B):-(32767*B)<=w*v/\w*v<=32767*B:=by
  have h:=Int.natAbs_mul w v
  have h1:(w*v).natAbs<=32767*B.toNat:=(by rw [h];exact Nat.mul_le_mul (by omega) (by omega))
  omega
theorem wmul_between {w v lo hi:Int} (h1:lo<=v) (h2:v<=hi):min (w*lo) (w*hi)<=w*v/\w*v<=max (w*lo) (w*hi):=by
  rcases Int.le_total 0 w with hw|hw
  · have a:=Int.mul_le_mul_of_nonneg_left h1 hw;have b:=Int.mul_le_mul_of_nonneg_left h2 hw;omega
  · have a:=Int.mul_le_mul_of_nonpos_left hw h1;have b:=Int.mul_le_mul_of_nonpos_left hw h2;omega
theorem areW_get {l:List Int} (h:areW l=true) (k:Nat):-32767<=l.getD k 0/\l.getD k 0<=32767:=by
  rw [List.getD_eq_getElem?_getD]
  cases e:l[k]? with
  |none=>exact ⟨by decide,by decide⟩
  |some z=>exact areW_at h e
theorem sumW_between {l:List Int} {f:Nat->Int} {lo hi:Int} (h:∀k,k<l.length->lo<=f k/\f k<=hi):sumLo l lo hi<=sumN (fun k=>l.getD k 0*f k) l.length/\sumN (fun k=>l.getD k 0*f k) l.length<=sumHi l lo hi:=by
  have e1:=sumN_list (l:=l) (fun w=>min (w*lo) (w*hi)) (by simp) l.length (Nat.le_refl _)
  have e2:=sumN_list (l:=l) (fun w=>max (w*lo) (w*hi)) (by simp) l.length (Nat.le_refl _)
  rw [List.take_of_length_le (Nat.le_refl _)] at e1 e2
  unfold sumLo sumHi
  rw [<-e1,<-e2]
  exact ⟨sumN_le _ (fun k hk=>(wmul_between (h k hk).1 (h k hk).2).1),sumN_le _ (fun k hk=>(wmul_between (h k hk).1 (h k hk).2).2)⟩
theorem shift_mono {a b s:Int} (h:a<=b) (ha:accP a) (hb:accP b):shiftV a s<=shiftV b s:=by
  by_cases hs:0<=s/\s<=24
  · have e:∀z,accP z->shiftV z s=if s=0 then z else (z+2^(s-1).toNat)/2^s.toNat:=fun z hz=>if_pos ⟨hz,hs⟩
    rw [e a ha,e b hb]
    split
    · exact h
    · exact Int.ediv_le_ediv (Int.pow_pos (by decide:(0:Int)<2)) (by omega)
  · exact (by have e:∀z,shiftV z s=0:=fun z=>if_neg (fun h=>hs h.2);rw [e a,e b];exact Int.le_refl _)
theorem bnd_t {l:List Int} {lo hi:Int} (h:bndOK l lo hi=true):wCode l=0/\lo<=hi/\-68719476736<=lo/\hi<=68719476736/\accP (sumLo l lo hi)/\accP (sumHi l lo hi)/\bndLo l lo hi=sumLo l lo hi/\bndHi l lo hi=sumHi l lo hi:=by
  have h1:=of_decide_eq_true h
  exact ⟨h1.1,h1.2.1,h1.2.2.1,h1.2.2.2.1,h1.2.2.2.2.1,h1.2.2.2.2.2,by unfold bndLo;rw [if_pos h],by unfold bndHi;rw [if_pos h]⟩
theorem bnd_sum {l:List Int} {f:Nat->Int} {lo hi s:Int} (h:bndOK l lo hi=true) (hf:∀k,k<l.length->lo<=f k/\f k<=hi):
    accP (sumN (fun k=>l.getD k 0*f k) l.length)/\shiftV (bndLo l lo hi) s<=shiftV (sumN (fun k=>l.getD k 0*f k) l.length) s/\shiftV (sumN (fun k=>l.getD k 0*f k) l.length) s<=shiftV (bndHi l lo hi) s:=by
  obtain ⟨_,_,_,_,h5,h6,h7,h8⟩:=bnd_t h
  have hb:=sumW_between hf
  have ha:accP (sumN (fun k=>l.getD k 0*f k) l.length):=by unfold accP at*;omega
  rw [h7,h8]
  exact ⟨ha,shift_mono hb.1 h5 ha,shift_mono hb.2 ha h6⟩
theorem part_bd {l:List Int} {f:Nat->Int} {lo hi:Int} {n:Nat} (h:bndOK l lo hi=true) (hf:∀k,k<l.length->lo<=f k/\f k<=hi) (hn:n<=l.length):
    -200000000000000000<=sumN (fun k=>l.getD k 0*f k) n/\sumN (fun k=>l.getD k 0*f k) n<=200000000000000000:=by
  obtain ⟨h1,h2,h3,h4,_⟩:=bnd_t h
  obtain ⟨a0,hl,hw⟩:=wCode_len h1
  have hb:=sumN_bd (f:=fun k=>l.getD k 0*f k) (B:=32767*68719476736) n (fun k hk=>wmul_bd (areW_get hw k) (B:=68719476736) (by have:=hf k (by omega);omega) (by decide))
  omega
def zPl:PlaneV:=⟨0,0,0,[]⟩
def rIn (r:Rct) (w h:Int):Prop:=(0<=r.x0/\r.x0<r.x1/\r.x1<=w)/\0<=r.y0/\r.y0<r.y1/\r.y1<=h
instance (r:Rct) (w h:Int):Decidable (rIn r w h):=by unfold rIn;infer_instance
def areaN (r:Rct):Nat:=((r.x1-r.x0)*(r.y1-r.y0)).toNat
def mkPl (r:Rct) (mx:Int) (f:Int->Int->Int):PlaneV:=⟨r.x1-r.x0,r.y1-r.y0,mx,gridN (r.x1-r.x0) (fun i j=>f (r.x0+i) (r.y0+j)) (areaN r)⟩
def okT (c:Int) (p:PlaneV):PlaneV×Int:=if c=0 then (p,0) else (zPl,c)
theorem okT_0 {c:Int} {p:PlaneV} (h:c=0):okT c p=(p,0):=if_pos h
theorem okT_n {c:Int} {p:PlaneV} (h:¬c=0):okT c p=(zPl,c):=if_neg h
def edgC (p:PlaneV) (pol fill c w h:Int) (r:Rct):Int:=if planeOK p=true/\edgeV pol fill p.max_ then (if c=0 then (if rIn r w h then 0 else 8) else c) else 1
def convF (p:PlaneV) (pol fill kw kh x y:Int) (k:Nat):Int:=pixV p pol fill (x+(k:Int)%kw-kw/2) (y+(k:Int)/kw-kh/2)
def convS (p:PlaneV) (pol fill kw kh:Int) (ws:List Int) (x y:Int) (n:Nat):Int:=sumN (fun k=>ws.getD k 0*convF p pol fill kw kh x y k) n
def convX (p:PlaneV) (pol fill kw kh:Int) (ws:List Int) (sh out x y:Int):Int:=clampV (shiftV (convS p pol fill kw kh ws x y ws.length) sh) out
def convT (p:PlaneV) (pol fill kw kh:Int) (ws:List Int) (sh out:Int) (r:Rct):PlaneV×Int:=
  okT (edgC p pol fill (convCode p.max_ kw kh ws sh out) p.w p.h r) (mkPl r out (convX p pol fill kw kh ws sh out))
def midF (p:PlaneV) (pol fill:Int) (row:List Int) (x y:Int) (k:Nat):Int:=pixV p pol fill (x+(k:Int)-(row.length:Int)/2) y
def midS (p:PlaneV) (pol fill:Int) (row:List Int) (x y:Int) (n:Nat):Int:=sumN (fun k=>row.getD k 0*midF p pol fill row x y k) n
def midV (p:PlaneV) (pol fill:Int) (row:List Int) (sh x y:Int):Int:=shiftV (midS p pol fill row x y row.length) sh
def sepS (p:PlaneV) (pol fill:Int) (row col:List Int) (sh x y:Int) (n:Nat):Int:=sumN (fun j=>col.getD j 0*midV p pol fill row sh x (y+(j:Int)-(col.length:Int)/2)) n
def sepX (p:PlaneV) (pol fill:Int) (row col:List Int) (sh sh2 out x y:Int):Int:=clampV (shiftV (sepS p pol fill row col sh x y col.length) sh2) out
def sepT (p:PlaneV) (pol fill:Int) (row col:List Int) (sh sh2 out:Int) (r:Rct):PlaneV×Int:=
  okT (edgC p pol fill (sepCode p.max_ row col sh sh2 out) p.w p.h r) (mkPl r out (sepX p pol fill row col sh sh2 out))
def tapAt (l:List TapV) (i:Int):TapV:=l[i.toNat]?.getD ⟨0,[]⟩
def tapS (p:PlaneV) (pol fill:Int) (t:TapV) (k:Int) (n:Nat):Int:=sumN (fun i=>t.weights.getD i 0*pixV p pol fill (t.first+(i:Int)) k) n
def tapV (p:PlaneV) (pol fill:Int) (t:TapV) (sh k:Int):Int:=shiftV (tapS p pol fill t k t.weights.length) sh
def resS (p:PlaneV) (pol fill:Int) (s t:TapV) (sh:Int) (n:Nat):Int:=sumN (fun j=>t.weights.getD j 0*tapV p pol fill s sh (t.first+(j:Int))) n
def resX (p:PlaneV) (pol fill:Int) (x y:List TapV) (sh sh2 out u v:Int):Int:=clampV (shiftV (resS p pol fill (tapAt x u) (tapAt y v) sh (tapAt y v).weights.length) sh2) out
def resT (p:PlaneV) (pol fill:Int) (x y:List TapV) (sh sh2 out:Int) (r:Rct):PlaneV×Int:=
  okT (edgC p pol fill (resCode p.w p.h p.max_ x y sh sh2 out) x.length y.length r) (mkPl r out (resX p pol fill x y sh sh2 out))
theorem conv_ok {mx kw kh:Int} {ws:List Int} {sh out:Int} (h:convCode mx kw kh ws sh out=0):
    (1<=kw/\kw<=9)/\(1<=kh/\kh<=9)/\(ws.length:Int)=kw*kh/\(0<=sh/\sh<=24)/\(1<=out/\out<=4294967296)/\bndOK ws 0 mx=true:=by
  unfold convCode at h
  split at h
  · rename_i h1
    split at h
    · rename_i h2
      split at h
      · rename_i h3
        split at h
        · rename_i h4;exact ⟨h1.1,h1.2.1,h1.2.2,h2.2,h3.2,h4⟩
        · omega
      · omega
    · omega
  · omega
theorem sep_ok {mx:Int} {row col:List Int} {sh sh2 out:Int} (h:sepCode mx row col sh sh2 out=0):
  ((1<=row.length/\row.length<=9)/\1<=col.length/\col.length<=9)/\((0<=sh/\sh<=24)/\0<=sh2/\sh2<=24)/\(1<=out/\out<=4294967296)/\bndOK row 0 mx=true/\bndOK col (shiftV (bndLo row 0 mx) sh) (shiftV (bndHi row 0 mx) sh)=true:=by
 unfold sepCode at h
 split at h
 ·rename_i h1
  split at h
  ·rename_i h2
   split at h
   ·rename_i h3
    split at h
    ·rename_i h4
     split at h
     ·rename_i h5;exact ⟨om,h2.2.2,h3.2,h4,h5⟩
     ·omega
    ·omega
   ·omega
  ·omega
 ·omega
theorem res_ok {w h mx:Int} {x y:List TapV} {s s2 out:Int} (e:resCode w h mx x y s s2 out=0):
  tapsCode x w=0/\tapsCode y h=0/\(x.length:Int)*(y.length:Int)<=4096/\((0<=s/\s<=24)/\0<=s2/\s2<=24)/\(1<=out/\out<=4294967296)/\x.all (fun t=>bndOK t.weights 0 mx)=true/\y.all (fun t=>bndOK t.weights (runLo (spLo mx s) x) (runHi (spHi mx s) x))=true:=by
 unfold resCode at e
 split at e
 ·rename_i h1
  split at e
  ·rename_i h2
   split at e
   ·rename_i h3
    split at e
    ·rename_i h4
     split at e
     ·rename_i h5
      split at e
      ·rename_i h6
       split at e
       ·rename_i h7;exact ⟨h1,h2,h3,h4,h5.2,h6,h7⟩
       ·omega
      ·omega
     ·omega
    ·omega
   ·omega
  ·omega
 ·omega
theorem foldl_min {f:TapV->Int}:∀(l:List TapV) (m:Int),l.foldl (fun m t=>min m (f t)) m<=m/\∀t∈l,l.foldl (fun m t=>min m (f t)) m<=f t
  |[],m=>⟨Int.le_refl _,fun t h=>by cases h⟩
  |a::l,m=>by
    have ih:=foldl_min (f:=f) l (min m (f a))
    rw [List.foldl_cons]
    refine ⟨by omega,fun t ht=>?_⟩
    rcases List.mem_cons.1 ht with rfl|ht
    · omega
    · exact ih.2 t ht
theorem foldl_max {f:TapV->Int}:∀(l:List TapV) (m:Int),m<=l.foldl (fun m t=>max m (f t)) m/\∀t∈l,f t<=l.foldl (fun m t=>max m (f t)) m
  |[],m=>⟨Int.le_refl _,fun t h=>by cases h⟩
  |a::l,m=>by
    have ih:=foldl_max (f:=f) l (max m (f a))
    rw [List.foldl_cons]
    refine ⟨by omega,fun t ht=>?_⟩
    rcases List.mem_cons.1 ht with rfl|ht
    · omega
    · exact ih.2 t ht
theorem runLo_le {f:TapV->Int} {l:List TapV} {t:TapV} (h:t∈l):runLo f l<=f t:=by
  cases l with
  |nil=>cases h
  |cons a l=>
    have:=foldl_min (f:=f) l (f a)
    unfold runLo
    rcases List.mem_cons.1 h with rfl|h
    · exact this.1
    · exact this.2 t h
theorem runHi_le {f:TapV->Int} {l:List TapV} {t:TapV} (h:t∈l):f t<=runHi f l:=by
  cases l with
  |nil=>cases h
  |cons a l=>
    have:=foldl_max (f:=f) l (f a)
    unfold runHi
    rcases List.mem_cons.1 h with rfl|h
    · exact this.1
    · exact this.2 t h
section
variable {p:PlaneV} {pol fill:Int} (hp:planeOK p=true) (he:edgeV pol fill p.max_)
include hp he
theorem conv_part {kw kh sh out x y:Int} {ws:List Int} (h:convCode p.max_ kw kh ws sh out=0) {n:Nat} (hn:n<=ws.length):-200000000000000000<=convS p pol fill kw kh ws x y n/\convS p pol fill kw kh ws x y n<=200000000000000000:=
  part_bd (conv_ok h).2.2.2.2.2 (fun k _=>pix_bd hp he) hn
theorem mid_part {sh sh2 out x y:Int} {row col:List Int} (h:sepCode p.max_ row col sh sh2 out=0) {n:Nat} (hn:n<=row.length):-200000000000000000<=midS p pol fill row x y n/\midS p pol fill row x y n<=200000000000000000:=
  part_bd (sep_ok h).2.2.2.1 (fun k _=>pix_bd hp he) hn
theorem mid_acc {sh sh2 out x y:Int} {row col:List Int} (h:sepCode p.max_ row col sh sh2 out=0):accP (midS p pol fill row x y row.length)/\shiftV (bndLo row 0 p.max_) sh<=midV p pol fill row sh x y/\midV p pol fill row sh x y<=shiftV (bndHi row 0 p.max_) sh:=
  bnd_sum (sep_ok h).2.2.2.1 (fun k _=>pix_bd hp he)
theorem sep_part {sh sh2 out x y:Int} {row col:List Int} (h:sepCode p.max_ row col sh sh2 out=0) {n:Nat} (hn:n<=col.length):-200000000000000000<=sepS p pol fill row col sh x y n/\sepS p pol fill row col sh x y n<=200000000000000000:=
  part_bd (sep_ok h).2.2.2.2 (fun k _=>(mid_acc hp he h).2) hn
theorem mid_bd {sh sh2 out x y:Int} {row col:List Int} (h:sepCode p.max_ row col sh sh2 out=0):-68719476736<=midV p pol fill row sh x y/\midV p pol fill row sh x y<=68719476736:=by
  have h1:=(mid_acc hp he h (x:=x) (y:=y)).2;have h2:=bnd_t (sep_ok h).2.2.2.2;omega
theorem tap_part {t:TapV} {k:Int} (h:bndOK t.weights 0 p.max_=true) {n:Nat} (hn:n<=t.weights.length):-200000000000000000<=tapS p pol fill t k n/\tapS p pol fill t k n<=200000000000000000:=part_bd h (fun _ _=>pix_bd hp he) hn
theorem tap_acc {t:TapV} {sh k:Int} (h:bndOK t.weights 0 p.max_=true):accP (tapS p pol fill t k t.weights.length)/\spLo p.max_ sh t<=tapV p pol fill t sh k/\tapV p pol fill t sh k<=spHi p.max_ sh t:=bnd_sum h (fun _ _=>pix_bd hp he)
theorem tap_run {x y:List TapV} {s s2 out k:Int} {t:TapV} (h:resCode p.w p.h p.max_ x y s s2 out=0) (ht:t∈x):runLo (spLo p.max_ s) x<=tapV p pol fill t s k/\tapV p pol fill t s k<=runHi (spHi p.max_ s) x:=by
  have h1:=tap_acc hp he (sh:=s) (k:=k) (List.all_eq_true.1 (res_ok h).2.2.2.2.2.1 t ht)
  have h2:=runLo_le (f:=spLo p.max_ s) ht;have h3:=runHi_le (f:=spHi p.max_ s) ht
  omega
theorem res_part {x y:List TapV} {s s2 out:Int} {t u:TapV} (h:resCode p.w p.h p.max_ x y s s2 out=0) (ht:t∈x) (hu:u∈y) {n:Nat} (hn:n<=u.weights.length):-200000000000000000<=resS p pol fill t u s n/\resS p pol fill t u s n<=200000000000000000:=
  part_bd (List.all_eq_true.1 (res_ok h).2.2.2.2.2.2 u hu) (fun _ _=>tap_run hp he h ht) hn
theorem tap_bd {x y:List TapV} {s s2 out k:Int} {t u:TapV} (h:resCode p.w p.h p.max_ x y s s2 out=0) (ht:t∈x) (hu:u∈y):-68719476736<=tapV p pol fill t s k/\tapV p pol fill t s k<=68719476736:=by
  have h1:=tap_run hp he h ht (k:=k);have h2:=bnd_t (List.all_eq_true.1 (res_ok h).2.2.2.2.2.2 u hu);omega
end
def binV (v mx bins:Int):Int:=if (1<=mx/\mx<=4294967296)/\(0<=v/\v<=mx)/\1<=bins/\bins<=128 then v*bins/(mx+1) else 0
theorem bin_bd {v mx bins:Int} (hb:1<=bins):0<=binV v mx bins/\binV v mx bins<bins:=by
  unfold binV
  split
  · exact (by rename_i h;have h0:0<=v*bins:=Int.mul_nonneg (by omega) (by omega);exact ⟨Int.ediv_nonneg h0 (by omega),Int.ediv_lt_of_lt_mul (by omega) (by have h1:v*bins<(mx+1)*bins:=Int.mul_lt_mul_of_pos_right (by omega) (by omega);rw [Int.mul_comm bins];exact h1)⟩)
  · omega
def incV (c:List Int) (k:Int):List Int:=c.set k.toNat (c.getD k.toNat 0+1)
def pixAt (p:PlaneV) (x y:Int):Int:=p.pix.getD (y*p.w+x).toNat 0
def cntV (p:PlaneV) (bins:Int) (r:Rct) (n:Nat):List Int:=(gridN (r.x1-r.x0) (fun i j=>pixAt p (r.x0+i) (r.y0+j)) n).foldl (fun c v=>incV c (binV v p.max_ bins)) (List.replicate bins.toNat 0)
theorem cnt_len (p:PlaneV) (bins:Int) (r:Rct) (n:Nat):(cntV p bins r n).length=bins.toNat:=by
  unfold cntV
  have:∀(l c:List Int),(l.foldl (fun c v=>incV c (binV v p.max_ bins)) c).length=c.length:=by
    intro l
    induction l with
    |nil=>intro c;rfl
    |cons v l ih=>intro c;rw [List.foldl_cons,ih];simp [incV]
  rw [this,List.length_replicate]
theorem cnt_succ {p:PlaneV} {bins:Int} {r:Rct} {w i j:Nat} (hw:r.x1-r.x0=(w:Int)) (hj:j<w):cntV p bins r (i*w+j+1)=incV (cntV p bins r (i*w+j)) (binV (pixAt p (r.x0+j) (r.y0+i)) p.max_ bins):=by
  unfold cntV
  rw [hw,grid_succ hj,List.foldl_append];rfl
theorem cnt_bd {p:PlaneV} {bins:Int} {r:Rct} (n:Nat):∀z∈cntV p bins r n,0<=z/\z<=n:=by
 have a0:∀(l c:List Int) (m:Int),(∀z∈c,0<=z/\z<=m)->0<=m->∀z∈l.foldl (fun c v=>incV c (binV v p.max_ bins)) c,0<=z/\z<=m+l.length:=by
  intro l
  induction l with
  |nil=>intro c m h _ z hz;have:=h z hz;simp;omega
  |cons v l ih=>
   intro c m h hm z hz
   have h2:∀z∈incV c (binV v p.max_ bins),0<=z/\z<=m+1:=by
    intro z hz
    unfold incV at hz
    rcases List.mem_or_eq_of_mem_set hz with hz|rfl
    ·have:=h z hz;omega
    ·have:=getD_bd hm h (binV v p.max_ bins).toNat;omega
   have:=ih _ (m+1) h2 om z (by rw [List.foldl_cons] at hz;exact hz)
   simp only [List.length_cons];push_cast;omega
 intro z hz
 unfold cntV at hz
 have:=a0 _ _ 0 (fun z hz=>by have:=List.eq_of_mem_replicate hz;omega) om z hz
 rw [grid_len] at this;omega
def partC (p:PlaneV) (bins:Int) (r:Rct):Int:=if planeOK p=true then (if 1<=bins/\bins<=128 then (if rIn r p.w p.h then 0 else 8) else 9) else 1
def partV (p:PlaneV) (bins:Int) (r:Rct):List Int:=if partC p bins r=0 then cntV p bins r (areaN r) else []
def histT (p:PlaneV) (bins:Int):PlaneV×Int:=okT (partC p bins ⟨0,0,p.w,p.h⟩) ⟨bins,1,p.w*p.h,cntV p bins ⟨0,0,p.w,p.h⟩ (areaN ⟨0,0,p.w,p.h⟩)⟩
def floorV (x y:Int):Int:=if y=0 then 0 else Int.fdiv x y
def appV (o:POp) (x y a b:Int):Int:=
  if o.code=0 then a else if o.code=1 then b else if o.code=2 then o.arg else if o.code=3 then x+y else if o.code=4 then x-y else if o.code=5 then timesV x y
  else if o.code=6 then min x y else if o.code=7 then max x y else if o.code=8 then ((x-y).natAbs:Int) else if o.code=9 then floorV x y else if o.code=10 then shiftV x o.arg else (x.natAbs:Int)
def appOK (o:POp) (x y a b:Int):Prop:=(o.code=5->timesOK x y=true)/\accP (appV o x y a b)
instance (x:Int):Decidable (accP x):=by unfold accP;infer_instance
instance (o:POp) (x y a b:Int):Decidable (appOK o x y a b):=by unfold appOK;infer_instance
def stY (o:POp) (st:List Int):Int:=if takesV o.code=2 then st.getD (st.length-1) 0 else 0
def stX (o:POp) (st:List Int):Int:=if 0<takesV o.code then st.getD (st.length-(takesV o.code).toNat) 0 else 0
def rnGo (a b:Int):List POp->List Int->Option (List Int)
  |[],st=>some st
  |o::l,st=>if appOK o (stX o st) (stY o st) a b then rnGo a b l (st.take (st.length-(takesV o.code).toNat)++[appV o (stX o st) (stY o st) a b]) else none
def runV (l:List POp) (a b:Int):Int×Int:=match rnGo a b l [] with|some st=>(st.getD 0 0,0)|none=>(0,11)
def pwX (p q:PlaneV) (two:Bool) (l:List POp) (out x y:Int):Int:=clampV (runV l (pixAt p x y) (if two=true then pixAt q x y else 0)).1 out
def pwT (p q:PlaneV) (two:Bool) (l:List POp) (out:Int) (r:Rct):PlaneV×Int:=
  okT (if planeOK p=true/\(two=true->planeOK q=true) then (if pwCode l two p.max_ q.max_ out=0 then (if (two=true->p.w=q.w/\p.h=q.h)/\rIn r p.w p.h then 0 else 8) else pwCode l two p.max_ q.max_ out) else 1) (mkPl r out (pwX p q two l out))
def colS (p:PlaneV) (x y:Int) (n:Nat):Int:=sumN (fun b=>pixAt p x (y+b)) n
def recS (p:PlaneV) (x y:Int) (i j:Nat):Int:=sumN (fun a=>colS p (x+a) y j) i
theorem sumN_add (f g:Nat->Int):∀n:Nat,sumN (fun k=>f k+g k) n=sumN f n+sumN g n
  |0=>rfl
  |n+1=>by rw [sumN_succ,sumN_succ,sumN_succ,sumN_add f g n];omega
theorem sumN_nil:∀n:Nat,sumN (fun _=>0) n=0
  |0=>rfl
  |n+1=>by rw [sumN_succ,sumN_nil n];rfl
theorem sumN_swap (f:Nat->Nat->Int) (i:Nat):∀j:Nat,sumN (fun a=>sumN (fun b=>f a b) j) i=sumN (fun b=>sumN (fun a=>f a b) i) j
  |0=>by simp only [sumN_zero];exact sumN_nil i
  |j+1=>by
    rw [sumN_succ,<-sumN_swap f i j,<-sumN_add]
    exact sumN_congr i (fun a _=>sumN_succ _ _)
theorem rec_rows (p:PlaneV) (x y:Int) (i j:Nat):recS p x y i j=sumN (fun b=>sumN (fun a=>pixAt p (x+a) (y+b)) i) j:=sumN_swap (fun a b=>pixAt p (x+a) (y+b)) i j
theorem rec_down (p:PlaneV) (x y:Int) (i j:Nat):recS p x y i (j+1)=recS p x y i j+sumN (fun a=>pixAt p (x+a) (y+j)) i:=by rw [rec_rows,rec_rows,sumN_succ]
theorem pixAt_bd {p:PlaneV} (h:planeOK p=true) (x y:Int):0<=pixAt p x y/\pixAt p x y<=p.max_:=by
  have h1:=plane_sz h;have h2:=pix_mx h
  exact getD_bd (by omega) h1.2.2 _
theorem rec_bd {p:PlaneV} (h:planeOK p=true) (x y:Int) (i j:Nat):0<=recS p x y i j/\recS p x y i j<=p.max_*j*i:=by
 have hc:∀z:Int,0<=colS p z y j/\colS p z y j<=p.max_*j:=fun z=>by
  have h1:=sumN_le (f:=fun _=>0) (g:=fun b=>pixAt p z (y+b)) j (fun k _=>(pixAt_bd h _ _).1)
  have h2:=sumN_bd (f:=fun b=>pixAt p z (y+b)) (B:=p.max_) j (fun k _=>by have:=pixAt_bd h z (y+k);omega)
  rw [sumN_nil] at h1
  unfold colS;omega
 have h1:=sumN_le (f:=fun _=>0) (g:=fun a=>colS p (x+a) y j) i (fun k _=>(hc _).1)
 have h2:=sumN_bd (f:=fun a=>colS p (x+a) y j) (B:=p.max_*j) i (fun k _=>by have:=hc (x+k);omega)
 rw [sumN_nil] at h1
 unfold recS;omega
def inM (m:Int) (l:List Int):Bool:=l.all fun v=>decide (0<=v/\v<=m)
def itgX (p:PlaneV) (left top:List Int) (corner:Int) (r:Rct) (i j:Int):Int:=left.getD j.toNat 0+top.getD i.toNat 0-corner+recS p r.x0 r.y0 (i.toNat+1) (j.toNat+1)
def itgL (p:PlaneV) (left top:List Int) (corner:Int) (r:Rct):List Int:=gridN (r.x1-r.x0) (itgX p left top corner r) (areaN r)
def itgC (p:PlaneV) (r:Rct) (left top:List Int) (corner:Int):Int:=
  if planeOK p=true then (if mostOK p.w p.h p.max_=true then (if rIn r p.w p.h/\(left.length:Int)=r.y1-r.y0/\(top.length:Int)=r.x1-r.x0 then
    (if inM (mostV p.w p.h p.max_) (corner::left++top)=true/\inM (mostV p.w p.h p.max_) (itgL p left top corner r)=true then 0 else 2) else 8) else 11) else 1
def itgT (p:PlaneV) (r:Rct) (left top:List Int) (corner:Int):PlaneV×Int:=okT (itgC p r left top corner) ⟨r.x1-r.x0,r.y1-r.y0,mostV p.w p.h p.max_,itgL p left top corner r⟩
def itgW (p:PlaneV):PlaneV×Int:=okT (if planeOK p=true then (if mostOK p.w p.h p.max_=true then 0 else 11) else 1) ⟨p.w,p.h,mostV p.w p.h p.max_,gridN p.w (fun i j=>recS p 0 0 (i.toNat+1) (j.toNat+1)) (p.w*p.h).toNat⟩
def stgT (s:StageV) (p q:PlaneV):PlaneV×Int:=
  if planeOK p=true/\(twoP s->planeOK q=true) then (if (ofV s (shpOf p) (shpOf q)).2=0 then
    (if s.kind=4 then histT p s.bins else if s.kind=5 then itgW p
     else if s.kind=1 then convT p s.edgePolicy s.edgeFill s.kW s.kH s.weights s.shift s.max_ ⟨0,0,(ofV s (shpOf p) (shpOf q)).1.w,(ofV s (shpOf p) (shpOf q)).1.h⟩
     else if s.kind=2 then sepT p s.edgePolicy s.edgeFill s.row s.col s.shift s.shift2 s.max_ ⟨0,0,(ofV s (shpOf p) (shpOf q)).1.w,(ofV s (shpOf p) (shpOf q)).1.h⟩
     else if s.kind=3 then resT p s.edgePolicy s.edgeFill s.x s.y s.shift s.shift2 s.max_ ⟨0,0,(ofV s (shpOf p) (shpOf q)).1.w,(ofV s (shpOf p) (shpOf q)).1.h⟩
     else pwT p q (decide (twoP s)) s.ops s.max_ ⟨0,0,(ofV s (shpOf p) (shpOf q)).1.w,(ofV s (shpOf p) (shpOf q)).1.h⟩) else (zPl,(ofV s (shpOf p) (shpOf q)).2)) else (zPl,1)
theorem clamp_bd {v m:Int} (h:0<=m):0<=clampV v m/\clampV v m<=m:=by unfold clampV;split<;>(try split)<;>omega
theorem arN_eq {r:Rct} {w h:Int} (hr:rIn r w h):(areaN r:Int)=(r.x1-r.x0)*(r.y1-r.y0):=by
  unfold rIn at hr
  have:=Int.mul_nonneg (show 0<=r.x1-r.x0 by omega) (show 0<=r.y1-r.y0 by omega)
  unfold areaN;omega
theorem plane_mk {p:PlaneV} (h1:sizeP p.w p.h p.max_) (h2:(p.pix.length:Int)=p.w*p.h) (h3:∀z∈p.pix,0<=z/\z<=p.max_):planeOK p=true:=
  planeOK_t ⟨h1,h2⟩ (by unfold pixOK;rw [List.all_eq_true];exact fun z hz=>decide_eq_true (h3 z hz))
theorem grid_mem {w:Int} {f:Int->Int->Int} {n:Nat} {z:Int} (h:z∈gridN w f n):∃k:Nat,k<n/\z=f ((k:Int)%w) ((k:Int)/w):=by
  unfold gridN at h
  obtain ⟨k,hk,rfl⟩:=List.mem_map.1 h
  exact ⟨k,List.mem_range.1 hk,rfl⟩
theorem mk_ok {r:Rct} {mx w h:Int} {f:Int->Int->Int} (hr:rIn r w h) (hw:w<=128/\h<=128) (ha:(r.x1-r.x0)*(r.y1-r.y0)<=4096) (hm:1<=mx/\mx<=4294967296) (hf:∀x y,0<=f x y/\f x y<=mx):
    planeOK (mkPl r mx f)=true/\shpOf (mkPl r mx f)=⟨r.x1-r.x0,r.y1-r.y0,mx⟩:=by
  refine ⟨plane_mk ?_ ?_ ?_,rfl⟩
  · unfold sizeP mkPl;unfold rIn at hr;dsimp only;omega
  · unfold mkPl;dsimp only;rw [grid_len,arN_eq hr]
  · exact (by intro z hz;have a0:z∈gridN (r.x1-r.x0) (fun i j=>f (r.x0+i) (r.y0+j)) (areaN r):=hz;obtain ⟨k,_,rfl⟩:=grid_mem a0;exact hf _ _)
theorem edgC_ok {p:PlaneV} {pol fill w h:Int} {r:Rct} {c:Int} (hp:planeOK p=true) (he:edgeV pol fill p.max_) (hc:c=0) (hr:rIn r w h):edgC p pol fill c w h r=0:=by
  unfold edgC;rw [if_pos ⟨hp,he⟩,if_pos hc,if_pos hr]
theorem conv_whole {p:PlaneV} {pol fill kw kh sh out:Int} {ws:List Int} {r:Rct} (hp:planeOK p=true) (he:edgeV pol fill p.max_) (hc:convCode p.max_ kw kh ws sh out=0) (hr:rIn r p.w p.h) (ha:(r.x1-r.x0)*(r.y1-r.y0)<=4096):
  convT p pol fill kw kh ws sh out r=(mkPl r out (convX p pol fill kw kh ws sh out),0)/\planeOK (convT p pol fill kw kh ws sh out r).1=true/\shpOf (convT p pol fill kw kh ws sh out r).1=⟨r.x1-r.x0,r.y1-r.y0,out⟩:=by
 have e:convT p pol fill kw kh ws sh out r=(mkPl r out (convX p pol fill kw kh ws sh out),0):=okT_0 (edgC_ok hp he hc hr)
 have hs:=(plane_sz hp).1;unfold sizeP at hs
 have ho:=(conv_ok hc).2.2.2.2.1
 rw [e]
 exact ⟨rfl,mk_ok hr om ha ho (fun x y=>clamp_bd om)⟩
theorem sep_whole {p:PlaneV} {pol fill sh sh2 out:Int} {row col:List Int} {r:Rct} (hp:planeOK p=true) (he:edgeV pol fill p.max_) (hc:sepCode p.max_ row col sh sh2 out=0) (hr:rIn r p.w p.h) (ha:(r.x1-r.x0)*(r.y1-r.y0)<=4096):
  sepT p pol fill row col sh sh2 out r=(mkPl r out (sepX p pol fill row col sh sh2 out),0)/\planeOK (sepT p pol fill row col sh sh2 out r).1=true/\shpOf (sepT p pol fill row col sh sh2 out r).1=⟨r.x1-r.x0,r.y1-r.y0,out⟩:=by
 have e:sepT p pol fill row col sh sh2 out r=(mkPl r out (sepX p pol fill row col sh sh2 out),0):=okT_0 (edgC_ok hp he hc hr)
 have hs:=(plane_sz hp).1;unfold sizeP at hs
 have ho:=(sep_ok hc).2.2.1
 rw [e]
 exact ⟨rfl,mk_ok hr om ha ho (fun x y=>clamp_bd om)⟩
theorem res_whole {p:PlaneV} {pol fill sh sh2 out:Int} {x y:List TapV} {r:Rct} (hp:planeOK p=true) (he:edgeV pol fill p.max_) (hc:resCode p.w p.h p.max_ x y sh sh2 out=0) (hr:rIn r x.length y.length) (ha:(r.x1-r.x0)*(r.y1-r.y0)<=4096):
  resT p pol fill x y sh sh2 out r=(mkPl r out (resX p pol fill x y sh sh2 out),0)/\planeOK (resT p pol fill x y sh sh2 out r).1=true/\shpOf (resT p pol fill x y sh sh2 out r).1=⟨r.x1-r.x0,r.y1-r.y0,out⟩:=by
 have e:resT p pol fill x y sh sh2 out r=(mkPl r out (resX p pol fill x y sh sh2 out),0):=okT_0 (edgC_ok hp he hc hr)
 have hk:=res_ok hc
 have h1:=tapsCode_len hk.1;have h2:=tapsCode_len hk.2.1
 rw [e]
 exact ⟨rfl,mk_ok hr om ha hk.2.2.2.2.1 (fun x y=>clamp_bd om)⟩
theorem opsCode_out {l:List POp} {two:Bool} {a b out:Int} (h:pwCode l two a b out=0):1<=out/\out<=4294967296:=by
  unfold pwCode at h
  split at h
  · split at h
    · assumption
    · omega
  · rename_i h1;exact absurd h h1
theorem pw_whole {p q:PlaneV} {two:Bool} {l:List POp} {out:Int} {r:Rct} (hp:planeOK p=true) (hq:two=true->planeOK q=true) (hc:pwCode l two p.max_ q.max_ out=0) (hs2:two=true->p.w=q.w/\p.h=q.h) (hr:rIn r p.w p.h) (ha:(r.x1-r.x0)*(r.y1-r.y0)<=4096):
  pwT p q two l out r=(mkPl r out (pwX p q two l out),0)/\planeOK (pwT p q two l out r).1=true/\shpOf (pwT p q two l out r).1=⟨r.x1-r.x0,r.y1-r.y0,out⟩:=by
 have e:pwT p q two l out r=(mkPl r out (pwX p q two l out),0):=by unfold pwT;rw [if_pos ⟨hp,hq⟩,if_pos hc,if_pos ⟨hs2,hr⟩];exact okT_0 rfl
 have hs:=(plane_sz hp).1;unfold sizeP at hs
 have ho:=opsCode_out hc
 rw [e]
 exact ⟨rfl,mk_ok hr om ha ho (fun x y=>clamp_bd om)⟩
theorem all_in {p:PlaneV} (hp:planeOK p=true):rIn ⟨0,0,p.w,p.h⟩ p.w p.h/\(areaN ⟨0,0,p.w,p.h⟩:Int)=p.w*p.h:=by
  have hs:=(plane_sz hp).1;unfold sizeP at hs
  have hr:rIn ⟨0,0,p.w,p.h⟩ p.w p.h:=by unfold rIn;dsimp only;omega
  exact ⟨hr,by rw [arN_eq hr];dsimp only;rw [Int.sub_zero,Int.sub_zero]⟩
theorem hist_whole {p:PlaneV} {bins:Int} (hp:planeOK p=true) (hb:1<=bins/\bins<=128):
  (histT p bins).2=0/\planeOK (histT p bins).1=true/\shpOf (histT p bins).1=⟨bins,1,p.w*p.h⟩:=by
 obtain ⟨hr,ha⟩:=all_in hp
 have hs:=(plane_sz hp).1;unfold sizeP at hs
 have a0:=Int.mul_le_mul (show (1:Int)<=p.w by omega) (show (1:Int)<=p.h by omega) om om
 have e:partC p bins ⟨0,0,p.w,p.h⟩=0:=by unfold partC;rw [if_pos hp,if_pos hb,if_pos hr]
 unfold histT
 rw [okT_0 e]
 refine ⟨rfl,plane_mk ?_ ?_ ?_,rfl⟩
 ·unfold sizeP;dsimp only;omega
 ·dsimp only;rw [cnt_len];omega
 · exact (by intro z hz;have:=cnt_bd _ z hz;dsimp only;omega)
theorem itg_whole {p:PlaneV} (hp:planeOK p=true) (hm:mostOK p.w p.h p.max_=true):
  (itgW p).2=0/\planeOK (itgW p).1=true/\shpOf (itgW p).1=⟨p.w,p.h,mostV p.w p.h p.max_⟩:=by
 have hs:=(plane_sz hp).1;unfold sizeP at hs
 have b0:=of_decide_eq_true hm
 have hv:mostV p.w p.h p.max_=p.w*p.h*p.max_:=by unfold mostV;rw [if_pos hm]
 have d0:=Int.mul_le_mul (show (1:Int)<=p.w by omega) (show (1:Int)<=p.h by omega) om om
 have c0:=Int.mul_le_mul (show (1:Int)<=p.w*p.h by omega) b0.2.2.1 om om
 unfold itgW
 rw [if_pos hp,if_pos hm,okT_0 rfl]
 refine ⟨rfl,plane_mk ?_ ?_ ?_,rfl⟩
 ·unfold sizeP;dsimp only;rw [hv];omega
 ·dsimp only;rw [grid_len];omega
 · exact (by intro z hz;dsimp only at hz⊢;obtain ⟨k,hk,rfl⟩:=grid_mem hz;have a0:(k:Int)<p.w*p.h:=(by omega);have hix:=tile_ix (nx:=p.w) (ny:=p.h) (i:=(k:Int)) om om a0;have hb:=rec_bd hp 0 0 (((k:Int)%p.w).toNat+1) (((k:Int)/p.w).toNat+1);have h1:p.max_*((((k:Int)/p.w).toNat+1:Nat):Int)<=p.max_*p.h:=Int.mul_le_mul_of_nonneg_left om om;have h0:0<=p.max_*p.h:=Int.mul_nonneg om om;have h2:p.max_*((((k:Int)/p.w).toNat+1:Nat):Int)*((((k:Int)%p.w).toNat+1:Nat):Int)<=p.max_*p.h*p.w:=Int.mul_le_mul h1 om om h0;rw [hv,show p.w*p.h*p.max_=p.max_*p.h*p.w by rw [Int.mul_comm (p.w*p.h),Int.mul_comm p.w,Int.mul_assoc]];exact ⟨hb.1,Int.le_trans hb.2 h2⟩)
theorem stg_ok {s:StageV} {p q:PlaneV} (hp:planeOK p=true) (hq:twoP s->planeOK q=true) (h:(ofV s (shpOf p) (shpOf q)).2=0):
  (stgT s p q).2=0/\planeOK (stgT s p q).1=true/\shpOf (stgT s p q).1=(ofV s (shpOf p) (shpOf q)).1:=by
 have hs:=(plane_sz hp).1;unfold sizeP at hs
 obtain ⟨hr,ha⟩:=all_in hp
 have b0:∀w h:Int,(p.w-0)*(p.h-0)<=4096:=fun _ _=>by rw [Int.sub_zero,Int.sub_zero];omega
 unfold stgT
 rw [if_pos ⟨hp,hq⟩,if_pos h]
 unfold ofV at h⊢
 split at h
 ·rename_i hf
  rw [if_pos hf]
  split at h
  ·rename_i hz
   rw [if_pos hz]
   split at h
   ·rename_i hed
    rw [if_pos hed]
    split at h
    ·rename_i hk
     rw [if_pos hk]
     have f0:1<=s.kind/\s.kind<=6:=by unfold fieldsP at hf;omega
     have hE:s.kind=1\/s.kind=2\/s.kind=3->edgeV s.edgePolicy s.edgeFill p.max_:=fun h=>(hed.resolve_left (fun hn=>hn h))
     refine bD (s.kind=1) (fun h1=>(by have hv:kernelV s (shpOf p) (shpOf q)=(⟨p.w,p.h,s.max_⟩,convCode p.max_ s.kW s.kH s.weights s.shift s.max_):=(by unfold kernelV;rw [if_pos h1];rfl);rw [hv] at hk⊢;rw [if_neg om,if_neg om,if_pos h1];have h:=conv_whole (r:=⟨0,0,p.w,p.h⟩) hp (hE (.inl h1)) hk hr (b0 p.w p.h);exact ⟨congrArg Prod.snd h.1,h.2.1,h.2.2.trans (by simp)⟩)) fun h1=>bD (s.kind=2) (fun h2=>(by have hv:kernelV s (shpOf p) (shpOf q)=(⟨p.w,p.h,s.max_⟩,sepCode p.max_ s.row s.col s.shift s.shift2 s.max_):=(by unfold kernelV;rw [if_neg h1,if_pos h2];rfl);rw [hv] at hk⊢;rw [if_neg om,if_neg om,if_neg h1,if_pos h2];have h:=sep_whole (r:=⟨0,0,p.w,p.h⟩) hp (hE (.inr (.inl h2))) hk hr (b0 p.w p.h);exact ⟨congrArg Prod.snd h.1,h.2.1,h.2.2.trans (by simp)⟩)) fun h2=>bD (s.kind=3) (fun h3=>(by have hv:kernelV s (shpOf p) (shpOf q)=(⟨s.x.length,s.y.length,s.max_⟩,resCode p.w p.h p.max_ s.x s.y s.shift s.shift2 s.max_):=(by unfold kernelV;rw [if_neg h1,if_neg h2,if_pos h3];rfl);rw [hv] at hk⊢;rw [if_neg om,if_neg om,if_neg h1,if_neg h2,if_pos h3];have c0:=res_ok hk;have l1:=tapsCode_len c0.1;have l2:=tapsCode_len c0.2.1;have e0:rIn ⟨0,0,(s.x.length:Int),(s.y.length:Int)⟩ s.x.length s.y.length:=(by unfold rIn;dsimp only;omega);have h:=res_whole (r:=⟨0,0,(s.x.length:Int),(s.y.length:Int)⟩) hp (hE (.inr (.inr h3))) hk e0 (by dsimp only;rw [Int.sub_zero,Int.sub_zero];exact c0.2.2.1);exact ⟨congrArg Prod.snd h.1,h.2.1,h.2.2.trans (by simp)⟩)) fun h3=>?_
     by_cases h4:s.kind=4
     ·by_cases hb:1<=s.bins/\s.bins<=128
      · exact (by have hv:kernelV s (shpOf p) (shpOf q)=(⟨s.bins,1,p.w*p.h⟩,0):=(by unfold kernelV;rw [if_neg h1,if_neg h2,if_neg h3,if_pos h4,if_pos hb];rfl);rw [hv];rw [if_pos h4];exact hist_whole hp hb)
      · exact (by have hv:(kernelV s (shpOf p) (shpOf q)).2=9:=(by unfold kernelV;rw [if_neg h1,if_neg h2,if_neg h3,if_pos h4,if_neg hb]);omega)
     by_cases h5:s.kind=5
     ·by_cases hm:mostOK p.w p.h p.max_=true
      · exact (by have hv:kernelV s (shpOf p) (shpOf q)=(⟨p.w,p.h,mostV p.w p.h p.max_⟩,0):=(by unfold kernelV;rw [if_neg h1,if_neg h2,if_neg h3,if_neg h4,if_pos h5,if_pos (show mostOK (shpOf p).w (shpOf p).h (shpOf p).max_=true from hm)];rfl);rw [hv];rw [if_neg h4,if_pos h5];exact itg_whole hp hm)
      · exact (by have hv:(kernelV s (shpOf p) (shpOf q)).2=11:=(by unfold kernelV;rw [if_neg h1,if_neg h2,if_neg h3,if_neg h4,if_pos h5,if_neg (show ¬mostOK (shpOf p).w (shpOf p).h (shpOf p).max_=true from hm)]);omega)
     by_cases a0:pwCode s.ops (decide (twoP s)) p.max_ q.max_ s.max_=0
     ·by_cases d0:twoP s/\¬(p.w=q.w/\p.h=q.h)
      · exact (by have hv:(kernelV s (shpOf p) (shpOf q)).2=8:=(by unfold kernelV;rw [if_neg h1,if_neg h2,if_neg h3,if_neg h4,if_neg h5,if_pos (show pwCode s.ops (decide (s.kind=6/\¬s.b=-1)) (shpOf p).max_ (shpOf q).max_ s.max_=0 from a0),if_pos (show (s.kind=6/\¬s.b=-1)/\¬((shpOf p).w=(shpOf q).w/\(shpOf p).h=(shpOf q).h) from d0)]);omega)
      · exact (by have hv:kernelV s (shpOf p) (shpOf q)=(⟨p.w,p.h,s.max_⟩,0):=(by unfold kernelV;rw [if_neg h1,if_neg h2,if_neg h3,if_neg h4,if_neg h5,if_pos (show pwCode s.ops (decide (s.kind=6/\¬s.b=-1)) (shpOf p).max_ (shpOf q).max_ s.max_=0 from a0),if_neg (show ¬((s.kind=6/\¬s.b=-1)/\¬((shpOf p).w=(shpOf q).w/\(shpOf p).h=(shpOf q).h)) from d0)];rfl);rw [hv];rw [if_neg h4,if_neg h5,if_neg h1,if_neg h2,if_neg h3];have h:=pw_whole (r:=⟨0,0,p.w,p.h⟩) (two:=decide (twoP s)) hp (fun h=>hq (of_decide_eq_true h)) a0 (fun h=>Classical.not_not.1 (fun hn=>d0 ⟨of_decide_eq_true h,hn⟩)) hr (b0 p.w p.h);exact ⟨congrArg Prod.snd h.1,h.2.1,h.2.2.trans (by simp)⟩)
     · exact (by have hv:(kernelV s (shpOf p) (shpOf q)).2=pwCode s.ops (decide (twoP s)) p.max_ q.max_ s.max_:=(by unfold kernelV;rw [if_neg h1,if_neg h2,if_neg h3,if_neg h4,if_neg h5,if_neg (show ¬pwCode s.ops (decide (s.kind=6/\¬s.b=-1)) (shpOf p).max_ (shpOf q).max_ s.max_=0 from a0)];rfl);exact absurd (hv.symm.trans hk) a0)
    ·omega
   ·omega
  ·omega
 ·omega
theorem rIn_area {r:Rct} {w h:Int} (hr:rIn r w h) (hm:w*h<=4096):(r.x1-r.x0)*(r.y1-r.y0)<=4096:=by
  unfold rIn at hr
  have:=Int.mul_le_mul (show r.x1-r.x0<=w by omega) (show r.y1-r.y0<=h by omega) (by omega) (by omega)
  omega
end Go.Proofs.YtghcddbhllkbmaaGreat
namespace Go.E
section
variable {P:Program} {n:Nat} {ρ:Env} {W w:World} {cs:List Chunk} {ops:Array Oper} {rest:List Oper} {N:Env->World->Prop} {o:Oper}
theorem sMake0 {α:Type} {enc:α->List Value} (hS:Sat W w cs) (m:Nat) (v:Int) (hv:v=(m:Int)) {t E:TypeId} {x y:Operand} {i:TypeInfo} {z:Value} {sz nb:Nat} {kl kc:IntKind} (ht:P.underlying t=some (.slice E)) (hi:P.info? E=some i)
  (he:∀x,(enc x).length=sz)
  (h:∀b c w',OwnT enc E sz (At b 0) 0 m [] c->Sat W w' (c::cs)->OpsE P n ops rest N (put ρ o.dst (.slice (At b 0) 0 m)) w')
  (hb:nb*m<=281474976710656:=by omega)
  (ho:o.op= .makeSlice t x y:=by rfl) (hg:o.guard=none:=by rfl) (hd:dstOK n o.dst=true:=by rfl)
  (hz:i.zero=some z:=by rfl) (hsize:i.size=sz:=by rfl) (hby:i.bytes=nb:=by rfl)
  (hx:ev ρ x= .int kl 0:=by kernel_rfl) (hy:ev ρ y= .int kc v:=by kernel_rfl) (hnb:0<nb:=by omega):OpsE P n ops (o::rest) N ρ w:=by
 subst hv
 have c0:m<=maxLen:=(by have:1*m<=nb*m:=Nat.mul_le_mul_right _ hnb;have h0:maxLen=9223372036854775807:=(by simp [maxLen]);omega)
 have b0:(m:Int)<=9223372036854775807:=(by have h0:=c0;simp [maxLen] at h0;omega)
 have d0:(i.bytes:Int)*(m:Int)<=281474976710656:=(by have h0:((i.bytes*m:Nat):Int)<=281474976710656:=(by rw [hby];omega);rwa [Int.natCast_mul] at h0)
 have hr:=run_make (P:=P) w t E i z ht hi hz kl kc 0 m om om d0 b0
 have a0:w.grownBy (w.alloc (.cells (madeCells z.cells ((m:Int).toNat*i.size)) E)) none:=World.grownBy_alloc w _ none
 have hh:=heap_alloc_new w (.cells (madeCells z.cells ((m:Int).toNat*i.size)) E)
 simp only [Int.toNat_natCast,Int.toNat_zero] at hr
 rw [hsize] at hr a0 hh
 simp only [Int.toNat_natCast] at a0 hh
 refine stepRun (v:= .slice (some ⟨w.heap.size,0,none⟩) 0 m) (w':=w.alloc (.cells (madeCells z.cells (m*sz)) E)) hg hd ?_ (h w.heap.size [(w.heap.size, .cells (madeCells z.cells (m*sz)) E (0,0))] _ ⟨rfl,he,by simp, .inr ⟨w.heap.size,0,_,rfl,rfl,Nat.zero_le _,c0,by rw [size_madeCells];omega,by simp⟩⟩ ?_)
 · exact (by unfold execOp;rw [ho];simp [hx,hy,hr])
 ·refine ⟨a0.os.trans hS.os,a0.tape.trans hS.tape,a0.output.trans hS.output,?_,?_⟩
  · exact (by simp only [List.flatten_cons,List.singleton_append,List.map_cons,List.nodup_cons];refine ⟨fun hm=>?_,hS.nd⟩;obtain ⟨p,hp,he⟩:=List.mem_map.1 hm;have:=hS.lt (b:=p.1) (o:=p.2) hp;omega)
  ·intro p hp
   simp only [List.flatten_cons,List.singleton_append,List.mem_cons] at hp
   rcases hp with rfl|hp
   ·exact hh
   · exact (by have hl:=hS.lt (b:=p.1) (o:=p.2) hp;rw [a0.block p.1 hl (by simp)];exact hS.all p hp)
end
end Go.E
namespace Go.E
set_option linter.unusedVariables false
set_option linter.unusedSimpArgs false
section
variable {P:Program} {n:Nat} {ρ:Env} {W w:World} {cs:List Chunk} {ops:Array Oper} {rest:List Oper} {N:Env->World->Prop} {o:Oper}
theorem sCopy {α:Type} {enc:α->List Value} {E sz:Nat} {a:Option Addr} {m cap:Nat} {xs:List α} {c:Chunk} (hS:Sat W w cs) (hO:OwnT enc E sz a m cap xs c) (j lo hi:Nat) (h1:hi<=lo) (h2:lo<=m)
  {t:TypeId} {args:Array Operand} {ats:Array TypeId} {x y:Operand} (hu:∀w,(underlying t).run P w= .ok (.slice E) w) (hsz:∀w,(sizeOf E).run P w= .ok sz w) (hone:∀z,∀v∈enc z,v.oneCell'=true)
  (h:∀w' c',OwnT enc E sz a m cap (xs.take lo++(xs.drop hi).take (m-lo)) c'->Sat W w' (cs.set j c')->OpsE P n ops rest N (put ρ o.dst (I ((m-lo:Nat):Int))) w')
  (ho:o.op= .call {callee:= .builtin .copy,args:=args,argTypes:=ats}:=by rfl) (hargs:args=#[x,y]:=by rfl) (hats:ats=#[t,t]:=by rfl) (hg:o.guard=none:=by rfl) (hd:dstOK n o.dst=true:=by rfl) (hj:cs[j]?=some c:=by rfl)
  (hx:ev ρ x= .slice (partAddr a cap lo sz) (m-lo) (cap-lo):=by kernel_rfl) (hy:ev ρ y= .slice (partAddr a cap hi sz) (m-hi) (cap-hi):=by kernel_rfl):OpsE P n ops (o::rest) N ρ w:=by
 subst hargs;subst hats
 have f0:∀w' c',OwnT enc E sz a m cap (xs.take lo++(xs.drop hi).take (m-lo)) c'->Sat W w' (cs.set j c')->(execOp (ev ρ) o).run P w= .ok (.value (I ((m-lo:Nat):Int))) w'->OpsE P n ops (o::rest) N ρ w:=fun w' c' m0 n0 hr=>
  stepRun hg hd hr (h w' c' m0 n0)
 have d0:Nat.min (m-hi) (m-lo)=m-lo:=Nat.min_eq_right om
 by_cases h0:m-lo=0
 ·refine f0 w c ?_ (hS.set j hj (fun h=>h)) ?_
  ·rw [h0,List.take_zero,List.append_nil,List.take_of_length_le (by rw [hO.1];omega)];exact hO
  ·have hf:∀b,(Builtin.firstCells sz 0 (.slice b (m-hi) (cap-hi))).run P w= .ok #[] w:=by
    intro b
    cases b with
    |none=>exact run_firstCells_none w _ _ _ _
    |some p=>exact run_firstCells_some (P:=P) w sz 0 p _ _ [] (by simp) (by simp)
   unfold execOp
   rw [ho]
   simp only [resolve,invoke,builtin,List.map_toArray,List.map_cons,List.map_nil,hx,hy]
   cases partAddr a cap lo sz<;>simp [Builtin.copy_,hu,hsz,Builtin.lenOf,d0,h0,hf,goInt,storeCells]
 ·obtain ⟨hl,he,c0,hr⟩:=hO
  have hO:OwnT enc E sz a m cap xs c:=⟨hl,he,c0,hr⟩
  rcases hr with ⟨_,rfl,_⟩|⟨b,g0,i0,rfl,rfl,hn,o0,hf,ht⟩
  ·omega
  ·have q0:¬cap=lo:=by omega
   have e0:¬cap=hi:=by omega
   have t0:m*sz<=cap*sz:=Nat.mul_le_mul_right _ hn
   have s0:lo*sz<=m*sz:=Nat.mul_le_mul_right _ h2
   have r0:(m-lo)*sz=m*sz-lo*sz:=Nat.sub_mul ..
   have k0:((xs.drop hi).take (m-lo)).length=m-lo:=by rw [List.length_take,List.length_drop];omega
   have b0:(((xs.drop hi).take (m-lo)).flatMap enc).length=(m-lo)*sz:=by rw [flatMap_len he,k0]
   have hR:=(hO.rdAt (cs:=cs) j hj).part (lo:=hi) (hi:=hi+(m-lo)) om om
   rw [show hi+(m-lo)-hi=m-lo by omega] at hR
   have a0:=hR.2.2
   simp only [partAddr,if_neg e0,Option.map_some,add_off] at a0
   obtain ⟨_,_,_,hp⟩:=a0
   rcases hp with hp|⟨b2,o2,e2,hp⟩
   ·omega
   simp only [Option.some.injEq,Addr.mk.injEq,and_true] at e2
   obtain ⟨rfl,rfl⟩:=e2
   have p0:=run_firstCells_some (P:=P) w sz (m-lo) ⟨b,g0+hi*sz,none⟩ (m-hi) (cap-hi) (((xs.drop hi).take (m-lo)).flatMap enc) b0 (fun j v hv=>by rw [add_off];exact hp.cell hS hv)
   have j0:∀u∈((xs.drop hi).take (m-lo)).flatMap enc,u.oneCell'=true:=(by intro u hu';obtain ⟨z,_,hz⟩:=List.mem_flatMap.1 hu';exact hone z u hz)
   have l0:=run_storeCells_at P b (g0+lo*sz) E (((xs.drop hi).take (m-lo)).flatMap enc) 0 i0 w (hS.at j hj) (by simp only [Nat.add_zero,b0];omega) j0
   simp only [Nat.add_zero] at l0
   refine f0 (w.setRow b (wr i0 (g0+lo*sz) (((xs.drop hi).take (m-lo)).flatMap enc))) [(b, .cells (wr i0 (g0+lo*sz) (((xs.drop hi).take (m-lo)).flatMap enc)) E (0,0))] ?_ (hS.rowAt j hj _) ?_
   · exact (by refine ⟨by rw [List.length_append,k0,List.length_take];omega,he,?_⟩;refine ⟨by rw [flatMap_len he];congr 1;rw [List.length_append,k0,List.length_take];omega, .inr ⟨b,g0,_,rfl,rfl,hn,o0,by rw [size_wr (by rw [b0];omega)];exact hf,?_⟩⟩;rw [wr_own om (by rw [b0];omega),ht,List.flatMap_append,show (xs.take lo).flatMap enc=(xs.flatMap enc).take (lo*sz) from (flatMap_take he ..).symm];simp only [wrL];generalize ((xs.drop hi).take (m-lo)).flatMap enc=Y at b0⊢;rw [List.drop_eq_nil_of_le (by rw [c0,b0];omega)];simp)
   · exact (by unfold execOp;rw [ho];simp only [resolve,invoke,builtin,List.map_toArray,List.map_cons,List.map_nil,hx,hy,partAddr,if_neg q0,if_neg e0,Option.map_some,add_off];simp [Builtin.copy_,hu,hsz,Builtin.lenOf,d0,p0,l0,goInt,wr])
end
end Go.E
namespace Go.E
theorem partAddr_zero {a:Option Addr} {n sz:Nat} (h:∀q,a=some q->∃b off,q=⟨b,off,none⟩):partAddr a n 0 sz=a:=by
  unfold partAddr
  split
  · rfl
  · cases a with
    |none=>rfl
    |some q=>
      obtain ⟨b,off,rfl⟩:=h q rfl
      simp only [Option.map_some,Nat.zero_mul,add_off];rfl
theorem OwnS.cut {E:TypeId} {a:Option Addr} {len cap i sz:Nat} {l:List Value} {c:Chunk} (h:OwnS E sz a len cap l c) (h1:i<=len):
  OwnS E sz (partAddr a i 0 sz) i i (l.take (i*sz)) c:=by
 obtain ⟨hl,hr⟩:=h
 have c0:i*sz<=len*sz:=Nat.mul_le_mul_right _ h1
 refine ⟨by simp;omega,?_⟩
 rcases hr with ⟨rfl,rfl,rfl,rfl⟩|⟨b,a0,b0,rfl,rfl,h2,h3,h4,h5⟩
 · exact (by left;obtain rfl:i=0:=(by omega);exact ⟨by rw [partAddr_zero (fun q h=>by cases h)],rfl,rfl,rfl⟩)
 · exact (by right;have hc:i*sz<=cap*sz:=Nat.mul_le_mul_right _ om;exact ⟨b,a0,b0,partAddr_zero (fun q h=>⟨b,a0,(Option.some.inj h).symm⟩),rfl,Nat.le_refl _,om,om,(by rw [<-h5,List.take_take,Nat.min_eq_left c0])⟩)
theorem OwnT.cut {α:Type} {enc:α->List Value} {E sz:Nat} {a:Option Addr} {len cap i:Nat} {xs:List α} {c:Chunk} (h:OwnT enc E sz a len cap xs c) (h1:i<=len):
    OwnT enc E sz (partAddr a i 0 sz) i i (xs.take i) c:=by
  exact ⟨by simp [h.1];omega,h.2.1,(by rw [<-flatMap_take h.2.1];exact h.2.2.cut h1)⟩
end Go.E

namespace Go.Proofs.YtghcddbhllkbmaaGreat
open Go Go.E Go.Proofs.Tryz
set_option linter.all false
set_option maxRecDepth 100000
set_option maxHeartbeats 2000000
variable {W w:World} {H:Chunk} {F:List Chunk}
theorem pl_ix {p:PlaneV} (h:planeOK p=true) {x y:Int} (hx:0<=x/\x<p.w) (hy:0<=y/\y<p.h):0<=y*p.w/\y*p.w+x<(p.pix.length:Int)/\y*p.w<=4096:=by
  have hs:=plane_sz h
  have h0:=hs.1;unfold sizeP at h0
  have h1:=Int.mul_le_mul_of_nonneg_right (show y+1<=p.h by omega) (show 0<=p.w by omega)
  rw [Int.add_mul,Int.one_mul,Int.mul_comm p.h] at h1
  have h2:0<=y*p.w:=Int.mul_nonneg hy.1 (by omega)
  omega
theorem pixV_get {p:PlaneV} {pol fill x y v:Int} (h1:(idxV x p.w pol).isSome=true) (h2:(idxV y p.h pol).isSome=true) (hv:p.pix[((idxV y p.h pol).getD 0*p.w+(idxV x p.w pol).getD 0).toNat]?=some v):pixV p pol fill x y=v:=by
  obtain ⟨i,hi⟩:=Option.isSome_iff_exists.1 h1
  obtain ⟨j,hj⟩:=Option.isSome_iff_exists.1 h2
  unfold pixV
  rw [hi,hj] at hv⊢
  dsimp only
  rw [List.getD_eq_getElem?_getD]
  exact (congrArg (fun (z:Option Int)=>z.getD 0) hv)
theorem pixV_fill {p:PlaneV} {pol fill x y:Int} (h:¬(idxV x p.w pol).isSome=true\/¬(idxV y p.h pol).isSome=true):pixV p pol fill x y=fill:=by
  unfold pixV
  cases h1:idxV x p.w pol with
  |none=>rfl
  |some c=>
    cases h2:idxV y p.h pol with
    |none=>rfl
    |some d=>rw [h1,h2] at h;simp at h
theorem idx_some {i n p:Int} (h:(idxV i n p).isSome=true):0<=(idxV i n p).getD 0/\(idxV i n p).getD 0<n:=by
  obtain ⟨c,hc⟩:=Option.isSome_iff_exists.1 h
  rw [hc];exact idx_bd hc
theorem pixV_in {p:PlaneV} {pol fill x y v:Int} (h:planeOK p=true) (he:edgeV pol fill p.max_) (hx:0<=x/\x<p.w) (hy:0<=y/\y<p.h) (hv:p.pix[(y*p.w+x).toNat]?=some v):pixV p pol fill x y=v:=by
  rw [pix_in h he hx hy,List.getD_eq_getElem?_getD,hv];rfl
def insP (a b:Rct):Prop:=rvP a/\rvP b/\((a.x0=0/\a.y0=0/\a.x1=0/\a.y1=0)\/(b.x0<=a.x0/\a.x1<=b.x1/\b.y0<=a.y0/\a.y1<=b.y1))
instance (a b:Rct):Decidable (insP a b):=by unfold insP;infer_instance
theorem ins_in {r:Rct} {w h:Int} (hw:1<=w/\w<=4096) (hh:1<=h/\h<=4096):(¬(r.x0=0/\r.y0=0/\r.x1=0/\r.y1=0)/\insP r ⟨0,0,w,h⟩)↔rIn r w h:=by
  unfold insP rvP cooP rIn
  dsimp only
  omega
theorem edgC_a {p:PlaneV} {pol fill c w h:Int} {r:Rct} (e:¬(planeOK p=true/\edgeV pol fill p.max_)):edgC p pol fill c w h r=1:=by unfold edgC;rw [if_neg e]
theorem edgC_b {p:PlaneV} {pol fill c w h:Int} {r:Rct} (e:planeOK p=true/\edgeV pol fill p.max_) (hc:¬c=0):edgC p pol fill c w h r=c:=by unfold edgC;rw [if_pos e,if_neg hc]
theorem edgC_c {p:PlaneV} {pol fill c w h:Int} {r:Rct} (e:planeOK p=true/\edgeV pol fill p.max_) (hc:c=0) (hr:¬rIn r w h):edgC p pol fill c w h r=8:=by unfold edgC;rw [if_pos e,if_pos hc,if_neg hr]
theorem okT_c {c:Int} {d:Int} {p:PlaneV} (h:c=d) (hd:¬d=0):okT c p=(zPl,d):=by rw [okT_n (by omega),h]
theorem mk_pl {r:Rct} {w h mx:Int} {W H:Nat} {f:Int->Int->Int} (hr:rIn r w h) (hW:r.x1-r.x0=(W:Int)) (hH:r.y1-r.y0=(H:Int)) {zs:List Int} (hz:zs=gridN W (fun i j=>f (r.x0+i) (r.y0+j)) (H*W)):mkPl r mx f=⟨r.x1-r.x0,r.y1-r.y0,mx,zs⟩:=by
  have hA:=arN_eq hr
  unfold mkPl
  rw [hz,<-hW]
  have:areaN r=H*W:=(by rw [hW,hH] at hA;have:((H*W:Nat):Int)=(W:Int)*(H:Int):=(by push_cast;rw [Int.mul_comm]);omega)
  rw [this]
theorem conv_succ {p:PlaneV} {pol fill kw kh x y v:Int} {ws:List Int} {K a b:Nat} (hk:kw=(K:Int)) (hb:b<K) (hw:ws[a*K+b]?=some v):
    convS p pol fill kw kh ws x y (a*K+b+1)=convS p pol fill kw kh ws x y (a*K+b)+v*pixV p pol fill (x+b-kw/2) (y+a-kh/2):=by
  subst hk
  have h:=grid_ix (nx:=(K:Int)) (i:=(a:Int)) (j:=(b:Int)) (by omega)
  unfold convS
  rw [sumN_succ,List.getD_eq_getElem?_getD,hw]
  unfold convF
  rw [show (((a*K+b:Nat):Int))=(a:Int)*(K:Int)+(b:Int) by push_cast;rfl,h.1,h.2]
  rfl
theorem p7_clamp (v:Int) (m:Int) (hS:Sat W w (H::F)):
  Ro prog 128 #[I v,I m] (I (clampV v m)) W w (H::F):=by
 exact callsK 18 func128 rfl<|jCO 12 rfl<|sD 8 (m<0) (fun a0=>jOR 15 rfl<|retT [I 0]<|⟨by unfold clampV;rw [if_pos om];rfl,hS⟩) fun a0=>jOC 6 rfl<|cD (v<0) (fun b0=>jCR 8 rfl<|retT [I 0]<|⟨by unfold clampV;rw [if_pos om];rfl,hS⟩) fun b0=>jCC 8 rfl<|cD (v>m) (fun c0=>jCR 9 rfl<|retT [I m]<|⟨by unfold clampV;rw [if_neg om,if_pos om];rfl,hS⟩) fun c0=>jCR 10 rfl<|retT [I v]<|⟨by unfold clampV;rw [if_neg om,if_neg om];rfl,hS⟩
theorem p2_inside (a:Rct) (b:Rct) (hS:Sat W w (H::F)):
  Ro prog 54 #[.agg (encRct a).toArray, .agg (encRct b).toArray] (.bool (decide (insP a b))) W w (H::F):=by
 exact callsK 41 func54 rfl<|jCO 2 rfl<|sBx hS (encRct a) fun _ _ e0=>sBx e0 (encRct b) fun _ _ d0=>gOO d0 7 [401] rfl<|cS (p2_valid a d0.flat) fun _ b0=>pu2<|SDn 8 (rvP a) (fun f0=>jOR 14 rfl<|retT [.bool false]<|⟨rB (by rw [Bool.eq_iff_iff];unfold insP;simp only [decide_eq_true_eq,Bool.false_eq_true,false_iff,true_iff]<;>first|omega|(simp_all;try omega)),(b0.drops [0,0])⟩) fun f0=>gOO b0 1 [400] rfl<|gY<|cS (p2_valid b b0.flat) fun _ c0=>jOC 4 rfl<|CDn (rvP b) (fun h0=>jCR 7 rfl<|retT [.bool false]<|⟨rB (by rw [Bool.eq_iff_iff];unfold insP;simp only [decide_eq_true_eq,Bool.false_eq_true,false_iff,true_iff]<;>first|omega|(simp_all;try omega)),(c0.drops [0,0])⟩) fun h0=>gCO c0 6 [401] rfl<|cS (p2_empty a c0.flat) fun _ a0=>jOC 2 rfl<|cD (a.x0=0/\a.y0=0/\a.x1=0/\a.y1=0) (fun j0=>jCR 7 rfl<|retT [.bool true]<|⟨rB (by rw [Bool.eq_iff_iff];unfold insP;simp only [decide_eq_true_eq,Bool.false_eq_true,false_iff,true_iff]<;>first|omega|(simp_all;try omega)),(a0.drops [0,0])⟩) fun j0=>gCO a0 10 [0,1] rfl<|SD 20 (b.x0<=a.x0) (fun l0=>jOR 24 rfl<|retT [.bool false]<|⟨rB (by rw [Bool.eq_iff_iff];unfold insP;simp only [decide_eq_true_eq,Bool.false_eq_true,false_iff,true_iff]<;>first|omega|(simp_all;try omega)),(a0.drops [0,0])⟩) fun l0=>gOO a0 7 [1,0] rfl<|SD 27 (a.x1<=b.x1) (fun n0=>jOR 17 rfl<|retT [.bool false]<|⟨rB (by rw [Bool.eq_iff_iff];unfold insP;simp only [decide_eq_true_eq,Bool.false_eq_true,false_iff,true_iff]<;>first|omega|(simp_all;try omega)),(a0.drops [0,0])⟩) fun n0=>gOO a0 7 [0,1] rfl<|SD 34 (b.y0<=a.y0) (fun p0=>jOR 10 rfl<|retT [.bool false]<|⟨rB (by rw [Bool.eq_iff_iff];unfold insP;simp only [decide_eq_true_eq,Bool.false_eq_true,false_iff,true_iff]<;>first|omega|(simp_all;try omega)),(a0.drops [0,0])⟩) fun p0=>gOR a0 10 [1,0] rfl<|retT [.bool (decide ((a.y1:Int)<=b.y1))]<|⟨rB (by rw [Bool.eq_iff_iff];unfold insP;simp only [decide_eq_true_eq,Bool.false_eq_true,false_iff,true_iff]<;>first|omega|(simp_all;try omega)),(a0.drops [0,0])⟩
theorem p9_pixel (p:Plane) (e0:Edge) (x:Int) (y:Int) (hp:Plane.Ok [H] p) (hpo:planeOK p.v=true) (hev:edgeV e0.policy e0.fill p.max_) (hS:Sat W w (H::F)):
  Ro prog 127 #[.agg (encPlane p).toArray, .agg #[I e0.policy,I e0.fill],I x,I y] (I (pixV p.v e0.policy e0.fill x y)) W w (H::F):=by
 have u0:=hp.pix.le;have s0:=hp.pix.len
 have B0:=(plane_sz hpo).1;unfold sizeP at B0;simp only [Plane.v] at B0;have x0:p.v.pix.length=p.pix.n:=s0
 refine callsK 65 func127 rfl<|jCO 2 rfl<|sBx hS (encPlane p) fun _ _ p0=>sBx p0 [I e0.policy,I e0.fill] fun _ _ a0=>jOO 9 rfl<|sD 13 (x<0) (fun q0=>gOO a0 31 [1,0] rfl<|cS (p3_index x p.w e0.policy a0.flat) fun _ g0=>gOO g0 14 [1,0] rfl<|cS (p3_index y p.h e0.policy g0.flat) fun _ b0=>jOO 12 rfl<|SBn 49 ((idxV x p.w e0.policy).isSome) (fun r0=>gOR b0 15 [0] rfl<|retT [I e0.fill]<|⟨congrArg (fun z=>Ending.returned (I z)) (pixV_fill (by first|exact .inl ‹_›|exact .inr ‹_›)).symm,(b0.drops [0,0])⟩) fun r0=>jOC 5 rfl<|CBn ((idxV y p.h e0.policy).isSome) (fun t0=>gCR b0 9 [0] rfl<|retT [I e0.fill]<|⟨congrArg (fun z=>Ending.returned (I z)) (pixV_fill (by first|exact .inl ‹_›|exact .inr ‹_›)).symm,(b0.drops [0,0])⟩) fun t0=>jCC 3 rfl<|(by have hix:=pl_ix hpo (x:=(idxV x p.w e0.policy).getD 0) (y:=(idxV y p.h e0.policy).getD 0) (idx_some ‹_›) (idx_some ‹_›);rw [x0] at hix;simp only [Plane.v] at hix;have A0:=idx_some (i:=x) (n:=p.w) (p:=e0.policy) ‹_›;exact gCO b0 6 [1,1] rfl<|sMul ((idxV y p.h e0.policy).getD 0) p.w<|pu1<|sAdd (((idxV y p.h e0.policy).getD 0)*p.w) ((idxV x p.w e0.policy).getD 0)<|sII hp.pix ((((idxV y p.h e0.policy).getD 0)*p.w)+((idxV x p.w e0.policy).getD 0)) fun h0 _ _ v0 w0=>sMp b0 (w0.up 2 rfl) 0 (I h0)<|jOR 4 rfl<|retT [I h0]<|⟨congrArg (fun z=>Ending.returned (I z)) (pixV_get (p:=p.v) ‹_› ‹_› v0).symm,(b0.drops [0,0])⟩)) fun q0=>?_
 refine gOO a0 6 [1] rfl<|sD 19 (x>=p.w) (fun y0=>gOO a0 25 [1,0] rfl<|cS (p3_index x p.w e0.policy a0.flat) fun _ i0=>gOO i0 14 [1,0] rfl<|cS (p3_index y p.h e0.policy i0.flat) fun _ c0=>jOO 12 rfl<|SBn 49 ((idxV x p.w e0.policy).isSome) (fun z0=>gOR c0 15 [0] rfl<|retT [I e0.fill]<|⟨congrArg (fun z=>Ending.returned (I z)) (pixV_fill (by first|exact .inl ‹_›|exact .inr ‹_›)).symm,(c0.drops [0,0])⟩) fun z0=>jOC 5 rfl<|CBn ((idxV y p.h e0.policy).isSome) (fun b1=>gCR c0 9 [0] rfl<|retT [I e0.fill]<|⟨congrArg (fun z=>Ending.returned (I z)) (pixV_fill (by first|exact .inl ‹_›|exact .inr ‹_›)).symm,(c0.drops [0,0])⟩) fun b1=>jCC 3 rfl<|(by have hix:=pl_ix hpo (x:=(idxV x p.w e0.policy).getD 0) (y:=(idxV y p.h e0.policy).getD 0) (idx_some ‹_›) (idx_some ‹_›);rw [x0] at hix;simp only [Plane.v] at hix;have A0:=idx_some (i:=x) (n:=p.w) (p:=e0.policy) ‹_›;exact gCO c0 6 [1,1] rfl<|sMul ((idxV y p.h e0.policy).getD 0) p.w<|pu1<|sAdd (((idxV y p.h e0.policy).getD 0)*p.w) ((idxV x p.w e0.policy).getD 0)<|sII hp.pix ((((idxV y p.h e0.policy).getD 0)*p.w)+((idxV x p.w e0.policy).getD 0)) fun j0 _ _ d1 e1=>sMp c0 (e1.up 2 rfl) 0 (I j0)<|jOR 4 rfl<|retT [I j0]<|⟨congrArg (fun z=>Ending.returned (I z)) (pixV_get (p:=p.v) ‹_› ‹_› d1).symm,(c0.drops [0,0])⟩)) fun y0=>?_
 refine pu4<|sD 23 (y<0) (fun g1=>gOO a0 21 [1,0] rfl<|cS (p3_index x p.w e0.policy a0.flat) fun _ k0=>gOO k0 14 [1,0] rfl<|cS (p3_index y p.h e0.policy k0.flat) fun _ d0=>jOO 12 rfl<|SBn 49 ((idxV x p.w e0.policy).isSome) (fun h1=>gOR d0 15 [0] rfl<|retT [I e0.fill]<|⟨congrArg (fun z=>Ending.returned (I z)) (pixV_fill (by first|exact .inl ‹_›|exact .inr ‹_›)).symm,(d0.drops [0,0])⟩) fun h1=>jOC 5 rfl<|CBn ((idxV y p.h e0.policy).isSome) (fun j1=>gCR d0 9 [0] rfl<|retT [I e0.fill]<|⟨congrArg (fun z=>Ending.returned (I z)) (pixV_fill (by first|exact .inl ‹_›|exact .inr ‹_›)).symm,(d0.drops [0,0])⟩) fun j1=>jCC 3 rfl<|(by have hix:=pl_ix hpo (x:=(idxV x p.w e0.policy).getD 0) (y:=(idxV y p.h e0.policy).getD 0) (idx_some ‹_›) (idx_some ‹_›);rw [x0] at hix;simp only [Plane.v] at hix;have A0:=idx_some (i:=x) (n:=p.w) (p:=e0.policy) ‹_›;exact gCO d0 6 [1,1] rfl<|sMul ((idxV y p.h e0.policy).getD 0) p.w<|pu1<|sAdd (((idxV y p.h e0.policy).getD 0)*p.w) ((idxV x p.w e0.policy).getD 0)<|sII hp.pix ((((idxV y p.h e0.policy).getD 0)*p.w)+((idxV x p.w e0.policy).getD 0)) fun l0 _ _ l1 m1=>sMp d0 (m1.up 2 rfl) 0 (I l0)<|jOR 4 rfl<|retT [I l0]<|⟨congrArg (fun z=>Ending.returned (I z)) (pixV_get (p:=p.v) ‹_› ‹_› l1).symm,(d0.drops [0,0])⟩)) fun g1=>?_
 exact gOC a0 7 [1] rfl<|CD (y>=p.h) (fun o1=>jCC 3 rfl<|(by have hix:=pl_ix hpo (x:=x) (y:=y) (by simp only [Plane.v];omega) (by simp only [Plane.v];omega);rw [x0] at hix;simp only [Plane.v] at hix;exact gCO a0 6 [1,1] rfl<|sMul y p.w<|pu1<|sAdd (y*p.w) x<|sII hp.pix ((y*p.w)+x) fun m0 _ _ q1 r1=>sMp a0 (r1.up 2 rfl) 0 (I m0)<|jOR 4 rfl<|retT [I m0]<|⟨congrArg (fun z=>Ending.returned (I z)) (pixV_in hpo hev (by simp only [Plane.v];omega) (by simp only [Plane.v];omega) q1).symm,(a0.drops [0,0])⟩)) fun o1=>gCO a0 13 [1,0] rfl<|cS (p3_index x p.w e0.policy a0.flat) fun _ n0=>gOO n0 14 [1,0] rfl<|cS (p3_index y p.h e0.policy n0.flat) fun _ f0=>jOO 12 rfl<|SBn 49 ((idxV x p.w e0.policy).isSome) (fun t1=>gOR f0 15 [0] rfl<|retT [I e0.fill]<|⟨congrArg (fun z=>Ending.returned (I z)) (pixV_fill (by first|exact .inl ‹_›|exact .inr ‹_›)).symm,(f0.drops [0,0])⟩) fun t1=>jOC 5 rfl<|CBn ((idxV y p.h e0.policy).isSome) (fun v1=>gCR f0 9 [0] rfl<|retT [I e0.fill]<|⟨congrArg (fun z=>Ending.returned (I z)) (pixV_fill (by first|exact .inl ‹_›|exact .inr ‹_›)).symm,(f0.drops [0,0])⟩) fun v1=>jCC 3 rfl<|(by have hix:=pl_ix hpo (x:=(idxV x p.w e0.policy).getD 0) (y:=(idxV y p.h e0.policy).getD 0) (idx_some ‹_›) (idx_some ‹_›);rw [x0] at hix;simp only [Plane.v] at hix;have A0:=idx_some (i:=x) (n:=p.w) (p:=e0.policy) ‹_›;exact gCO f0 6 [1,1] rfl<|sMul ((idxV y p.h e0.policy).getD 0) p.w<|pu1<|sAdd (((idxV y p.h e0.policy).getD 0)*p.w) ((idxV x p.w e0.policy).getD 0)<|sII hp.pix ((((idxV y p.h e0.policy).getD 0)*p.w)+((idxV x p.w e0.policy).getD 0)) fun o0 _ _ x1 y1=>sMp f0 (y1.up 2 rfl) 0 (I o0)<|jOR 4 rfl<|retT [I o0]<|⟨congrArg (fun z=>Ending.returned (I z)) (pixV_get (p:=p.v) ‹_› ‹_› x1).symm,(f0.drops [0,0])⟩)
theorem p9_tile (p:Plane) (e0:Edge) (kw:Int) (kh:Int) (aws:Option Addr) (nws kws:Nat) (ws:List Int) (sh:Int) (out:Int) (r:Rct) (hp:Plane.Ok [H] p) (hws:RdT Go.E.encI 1 [H] aws nws kws ws) (hS:Sat W w (H::F)):
  Calls prog 89 #[.agg (encPlane p).toArray, .agg #[I e0.policy,I e0.fill],I kw,I kh, .slice aws nws kws,I sh,I out, .agg (encRct r).toArray] w fun e w'=>∃(q:Plane) (c:Int) (G:Chunk),e= .returned (.tuple #[.agg (encPlane q).toArray,I c])/\q.Ok [G]/\(q.v,c)=convT p.v e0.policy e0.fill kw kh ws sh out r/\Sat W w' (G::H::F):=by
 have I0:=hp.pix.ll
 have S0:=hws.ll
 refine callsK 143 func89 rfl<|jCO 2 rfl<|sBx hS (encPlane p) fun _ _ l1=>sBx l1 [I e0.policy,I e0.fill] fun _ _ m1=>sBx m1 (encRct r) fun _ _ n1=>sAlloc n1 zeroValue38 fun _ _ n0=>gOO n0 7 [403] rfl<|cS (p4_valid p ⟨(hp.pix.fl 4)⟩ n0.flat) fun _ g0=>pu2<|SBn 28 (planeOK p.v) (fun a0=>jOO 12 rfl<|sTk g0 0 rfl [I 0,I 0,I 0,nS] fun _ o0=>jOR 5 rfl<|retD o0 0 [I 0,I 0,I 0,nS] (I 1)<|(by have hC:edgC p.v e0.policy e0.fill (convCode p.v.max_ kw kh ws sh out) p.v.w p.v.h r=1:=edgC_a (fun h=>a0 h.1);have o1:=(o0.drops [0,0,0,0]);have q1:Sat W _ ([]::H::F):=Sat.nilc o1;exact ⟨(⟨0,0,0,⟨none,0,0,[]⟩⟩:Plane),1,_,rfl,⟨RdT.nil (enc:=Go.E.encI) (sz:=1) fR [[]]⟩,(by unfold convT;rw [okT_c hC om];rfl),q1⟩)) fun a0=>gOO g0 3 [202,3] rfl<|gY<|cS (p3_valid e0 p.max_ g0.flat) fun _ h0=>jOC 4 rfl<|CDn ((e0.policy=3/\0<=e0.fill/\e0.fill<=p.max_)\/(0<=e0.policy/\e0.policy<3/\e0.fill=0)) (fun b0=>jCO 3 rfl<|sTk h0 0 rfl [I 0,I 0,I 0,nS] fun _ p0=>jOR 5 rfl<|retD p0 0 [I 0,I 0,I 0,nS] (I 1)<|(by have hC:edgC p.v e0.policy e0.fill (convCode p.v.max_ kw kh ws sh out) p.v.w p.v.h r=1:=edgC_a (fun h=>b0 h.2);have r1:=(p0.drops [0,0,0,0]);have t1:Sat W _ ([]::H::F):=Sat.nilc r1;exact ⟨(⟨0,0,0,⟨none,0,0,[]⟩⟩:Plane),1,_,rfl,⟨RdT.nil (enc:=Go.E.encI) (sz:=1) fR [[]]⟩,(by unfold convT;rw [okT_c hC om];rfl),t1⟩)) fun b0=>?_
 refine gCO h0 12 [3] rfl<|cS (p9_check p.max_ kw kh aws nws kws ws sh out (hws.fl 4) h0.flat) fun _ i0=>jOC 9 rfl<|CN (convCode p.max_ kw kh ws sh out) 0 (fun u1=>jCO 4 rfl<|sTk i0 0 rfl [I 0,I 0,I 0,nS] fun _ q0=>jOR 5 rfl<|retD q0 0 [I 0,I 0,I 0,nS] (I (convCode p.max_ kw kh ws sh out))<|(by have hC:edgC p.v e0.policy e0.fill (convCode p.v.max_ kw kh ws sh out) p.v.w p.v.h r=(convCode p.max_ kw kh ws sh out):=edgC_b ⟨a0,b0⟩ (by simp only [Plane.v] at*;omega);have v1:=(q0.drops [0,0,0,0]);have w1:Sat W _ ([]::H::F):=Sat.nilc v1;exact ⟨(⟨0,0,0,⟨none,0,0,[]⟩⟩:Plane),(convCode p.max_ kw kh ws sh out),_,rfl,⟨RdT.nil (enc:=Go.E.encI) (sz:=1) fR [[]]⟩,(by unfold convT;rw [okT_c hC om];rfl),w1⟩)) fun u1=>gCO i0 6 [401] rfl<|cS (p2_empty r i0.flat) fun _ j0=>pu1<|sD 50 (r.x0=0/\r.y0=0/\r.x1=0/\r.y1=0) (fun k0=>jOO 15 rfl<|sTk j0 0 rfl [I 0,I 0,I 0,nS] fun _ r0=>jOR 5 rfl<|retD r0 0 [I 0,I 0,I 0,nS] (I 8)<|(by have A0:=(plane_sz a0).1;unfold sizeP at A0;simp only [Plane.v] at A0;have hC:edgC p.v e0.policy e0.fill (convCode p.v.max_ kw kh ws sh out) p.v.w p.v.h r=8:=edgC_c ⟨a0,b0⟩ (by simp only [Plane.v] at*;omega) (fun h=>by have h2:=(ins_in (by simp only [Plane.v];omega) (by simp only [Plane.v];omega)).2 h;exact h2.1 k0);have z1:=(r0.drops [0,0,0,0]);have a2:Sat W _ ([]::H::F):=Sat.nilc z1;exact ⟨(⟨0,0,0,⟨none,0,0,[]⟩⟩:Plane),8,_,rfl,⟨RdT.nil (enc:=Go.E.encI) (sz:=1) fR [[]]⟩,(by unfold convT;rw [okT_c hC om];rfl),a2⟩)) fun k0=>?_
 refine gOO j0 6 [401,3,3] rfl<|gY<|cS (p2_inside r (⟨0,0,p.w,p.h⟩:Rct) j0.flat) fun _ d0=>jOC 4 rfl<|CDn (insP r (⟨0,0,p.w,p.h⟩:Rct)) (fun l0=>jCO 3 rfl<|sTk d0 0 rfl [I 0,I 0,I 0,nS] fun _ s0=>jOR 5 rfl<|retD s0 0 [I 0,I 0,I 0,nS] (I 8)<|(by have A0:=(plane_sz a0).1;unfold sizeP at A0;simp only [Plane.v] at A0;have hC:edgC p.v e0.policy e0.fill (convCode p.v.max_ kw kh ws sh out) p.v.w p.v.h r=8:=edgC_c ⟨a0,b0⟩ (by simp only [Plane.v] at*;omega) (fun h=>by have h2:=(ins_in (by simp only [Plane.v];omega) (by simp only [Plane.v];omega)).2 h;exact l0 h2.2);have b2:=(s0.drops [0,0,0,0]);have c2:Sat W _ ([]::H::F):=Sat.nilc b2;exact ⟨(⟨0,0,0,⟨none,0,0,[]⟩⟩:Plane),8,_,rfl,⟨RdT.nil (enc:=Go.E.encI) (sz:=1) fR [[]]⟩,(by unfold convT;rw [okT_c hC om];rfl),c2⟩)) fun l0=>jCC 3 rfl ?_
 have J0:planeOK p.v=true:=a0;have M0:edgeV e0.policy e0.fill p.max_:=b0;have Q0:(convCode p.v.max_ kw kh ws sh out)=0:=by simp only [Plane.v];omega
 have A0:=(plane_sz J0).1;unfold sizeP at A0;simp only [Plane.v] at A0;have N0:rIn r p.w p.h:=(ins_in om om).1 ⟨k0,l0⟩
 have R0:=N0;unfold rIn at R0;obtain ⟨P1,B1,C1,R1,Q1,A1⟩:=conv_ok Q0
 obtain ⟨Wn,hW⟩:∃k:Nat,r.x1-r.x0=(k:Int):=⟨_,(Int.toNat_of_nonneg om).symm⟩;obtain ⟨Hn,hH⟩:∃k:Nat,r.y1-r.y0=(k:Int):=⟨_,(Int.toNat_of_nonneg om).symm⟩
 have M1:1<=Wn/\Wn<=128/\1<=Hn/\Hn<=128:=om;have L1:Hn*Wn<=4096:=by have h1:=rIn_area N0 (by first|omega|assumption);rw [hW,hH] at h1;have h2:((Hn*Wn:Nat):Int)=(Wn:Int)*(Hn:Int):=(by push_cast;rw [Int.mul_comm]);omega
 have N1:(r.x1-r.x0)*(r.y1-r.y0)=((Hn*Wn:Nat):Int):=by rw [hW,hH];push_cast;rw [Int.mul_comm]
 obtain ⟨K,hK⟩:∃k:Nat,kw=(k:Int):=⟨_,(Int.toNat_of_nonneg om).symm⟩;obtain ⟨M,hM⟩:∃k:Nat,kh=(k:Int):=⟨_,(Int.toNat_of_nonneg om).symm⟩;have X0:ws.length=M*K:=by rw [hK,hM] at C1;have h2:((M*K:Nat):Int)=(K:Int)*(M:Int):=(by push_cast;rw [Int.mul_comm]);omega
 have D1:kw.tdiv 2=kw/2:=Int.tdiv_eq_ediv_of_nonneg om;have E1:kh.tdiv 2=kh/2:=Int.tdiv_eq_ediv_of_nonneg om;have Z0:=(wCode_len (bnd_t A1).1).2.2
 refine gCO d0 5 [1,1] rfl<|sSub r.x1 r.x0<|gOO d0 4 [1,1] rfl<|sSub r.y1 r.y0<|pu2<|sAlloc d0 zeroValue38 fun t0 _ d2=>sTk d2 0 rfl [I (r.x1-r.x0),I (r.y1-r.y0),I out,nS] fun _ u0=>gOO u0 8 [0,0] rfl<|sMul (r.x1-r.x0) (r.y1-r.y0)<|sMake0 (kl:= .i64) (kc:= .i64) (enc:=Go.E.encI) (sz:=1) (nb:=8) u0 (((r.x1-r.x0)*(r.y1-r.y0))).toNat ((r.x1-r.x0)*(r.y1-r.y0)) (om:((r.x1-r.x0)*(r.y1-r.y0))=(((((r.x1-r.x0)*(r.y1-r.y0))).toNat:Nat):Int)) underlying22 (i:=Tryz.t3) kr fR fun v0 e2 _ f2 g2=>pu1<|tWk g2 1 rfl 3 (.slice (At v0 0) 0 ((((r.x1-r.x0)*(r.y1-r.y0))).toNat)) fun _ w0=>jOC 4 rfl ?_
 obtain ⟨f,hf⟩:∃f:Int->Int->Int,f=fun i j=>convX p.v e0.policy e0.fill kw kh ws sh out (r.x0+i) (r.y0+j):=⟨_,rfl⟩
 refine gCC w0 7 [3] rfl<|loopF [2,3,4,5,6,8,9,15,16,19] (γ:=Nat×Int×(List Int)×SO) (fun ⟨i,yy,zs,B0,F0,E0,H0⟩ R=>⟨[(20,I yy)],H0::[(t0, .cells #[I (r.x1-r.x0),I (r.y1-r.y0),I out, .slice B0 F0 E0] 38 (0,0))]::R,Hn-i,i<=Hn/\(yy=r.y0+(i:Int))/\(zs=gridN Wn f (i*Wn))/\OwnT Go.E.encI 3 1 B0 F0 E0 zs H0⟩) (0,r.y0,[],(At v0 0),0,(((r.x1-r.x0)*(r.y1-r.y0))).toNat,e2) ⟨w0,om,om,(by rw [Nat.zero_mul];rfl),f2⟩ ?_
 rintro ⟨i,yy,zs,B0,F0,E0,H0⟩ ρ _ ⟨c0,hi,I1,hE,C0⟩
 have T0:=C0.ll
 refine gCC c0 9 [3] rfl<|CD (yy<r.y1) (fun i2=>gCO c0 8 [401] rfl<|sTk c0 2 rfl [I (r.x1-r.x0),I (r.y1-r.y0),I out, .slice B0 F0 E0] fun _ z0=>jOR 4 rfl<|retD z0 2 [I (r.x1-r.x0),I (r.y1-r.y0),I out, .slice B0 F0 E0] (I 0)<|(by have J1:zs=gridN Wn f (Hn*Wn):=(by rw [hE,show i=Hn by omega]);have hC:edgC p.v e0.policy e0.fill (convCode p.v.max_ kw kh ws sh out) p.v.w p.v.h r=0:=edgC_ok J0 M0 Q0 N0;exact ⟨(⟨(r.x1-r.x0),(r.y1-r.y0),out,⟨B0,F0,E0,zs⟩⟩:Plane),0,_,rfl,⟨(C0.rdAt (cs:=[H0]) 0 rfl)⟩,(by unfold convT;rw [okT_0 hC,mk_pl N0 hW hH (hf▸J1)];rfl),(z0.drops [1,1,1,1,1])⟩)) fun i2=>gCC c0 12 [3] rfl<|loopF [2,3,4,5,6,8,9,15,16,19,20] (γ:=Nat×Int×(List Int)×SO) (fun ⟨j,xx,zt,K0,G0,O0,L0⟩ R=>⟨[(21,I xx)],L0::[(t0, .cells #[I (r.x1-r.x0),I (r.y1-r.y0),I out, .slice K0 G0 O0] 38 (0,0))]::R,Wn-j,j<=Wn/\(xx=r.x0+(j:Int))/\(zt=gridN Wn f (i*Wn+j))/\OwnT Go.E.encI 3 1 K0 G0 O0 zt L0⟩) (0,r.x0,zs,B0,F0,E0,H0) ⟨c0,om,om,(by rw [Nat.add_zero];exact hE),C0⟩ ?_
 rintro ⟨j,xx,zt,K0,G0,O0,L0⟩ ρ _ ⟨m0,hj,H1,P0,D0⟩
 have U0:=D0.ll
 have W1:zt.length=i*Wn+j:=by rw [P0,grid_len]
 have S1:i*Wn+j<=Hn*Wn:=by have h1:=Nat.mul_le_mul_right Wn (show i+1<=Hn by omega);rw [Nat.add_mul,Nat.one_mul] at h1;omega
 refine gCC m0 9 [3] rfl<|CD (xx<r.x1) (fun k2=>jCO 8 rfl<|sAdd yy 1<|jOI 2 rfl<|⟨(i+1,(yy+1),zt,K0,G0,O0,L0),od,alB,m0,om,om,(by rw [Nat.add_mul,Nat.one_mul,P0,show j=Wn by omega]),D0⟩) fun k2=>jCC 17 rfl<|loopF [2,3,4,5,6,8,9,15,16,19,20,21,96] (γ:=Nat×Int) (fun ⟨a,s1⟩ R=>⟨[(97,I (a:Int)),(22,I s1)],R,M-a,a<=M/\(s1=convS p.v e0.policy e0.fill kw kh ws xx yy (a*K))⟩) (0,0) ⟨m0,om,(by rw [Nat.zero_mul];rfl)⟩ ?_
 rintro ⟨a,s1⟩ ρ _ ⟨a1,ha,V0⟩
 refine jCC 6 rfl<|CD ((a:Int)<kh) (fun l2=>jCC 5 rfl<|drawF a1 [4,6,7,8,10] (fb 1 1 3 1<|fn) [0,2,3,5,1,4,6,7,8,9,10] fun _ m2=>wV 4<|wL 0<|wO rfl<|cS (p7_shift s1 sh m2.flat) fun _ b1=>nZ b1 [1]<|wO rfl<|cS (p7_clamp (shiftV s1 sh) out b1.flat) fun _ c1=>nZ c1 [1]<|wO rfl<|sBK c1 #[I (clampV (shiftV s1 sh) out)] 3 fun _ _ d1=>nZ d1 [2]<|wO rfl<|sApp (nb:=8) d1 D0 1 (RdT.blk (enc:=Go.E.encI) (sz:=1) (xs:=[(clampV (shiftV s1 sh) out)]) fR 1 0 rfl rfl rfl om) underlying22 (i:=Tryz.t3) kr fR fun e1 f1 n2 _ o2 q2=>nA<|wV 1<|wO rfl<|tWk q2 2 rfl 3 (.slice e1 (G0+1) f1) fun _ r2=>nA<|wN<|jXO 4 rfl<|sAdd xx 1<|jOI 2 rfl<|⟨(j+1,(xx+1),(zt++[(clampV (shiftV s1 sh) out)]),e1,(G0+1),f1,n2),od,alB,(r2.dropAt 0 rfl),om,om,(by rw [<-Nat.add_assoc,grid_succ om,<-P0,hf];dsimp only;rw [<-H1,<-I1];unfold convX;rw [X0,V0,show a=M by omega]),o2⟩) fun l2=>jCC 17 rfl<|loopF [2,3,4,5,6,8,9,15,16,19,20,21,96,97,23,100] (γ:=Nat×Int) (fun ⟨b,s2⟩ R=>⟨[(101,I (b:Int)),(22,I s2)],R,K-b,b<=K/\(s2=convS p.v e0.policy e0.fill kw kh ws xx yy (a*K+b))⟩) (0,s1) ⟨a1,om,(by rw [Nat.add_zero];exact V0)⟩ ?_
 rintro ⟨b,s2⟩ ρ _ ⟨g1,hb,W0⟩
 have V1:=conv_part (kw:=kw) (kh:=kh) (x:=xx) (y:=yy) J0 M0 Q0 (n:=a*K+b) (by rw [X0];have h1:=Nat.mul_le_mul_right K (show a+1<=M by omega);rw [Nat.add_mul,Nat.one_mul] at h1;omega)
 refine jCC 6 rfl<|CD ((b:Int)<kw) (fun u2=>jCO 7 rfl<|sAdd (a:Int) 1<|jOI 2 rfl<|⟨(a+1,s2),od,alB,g1,om,(by rw [Nat.add_mul,Nat.one_mul,W0,show b=K by omega])⟩) fun u2=>jCC 10 rfl ?_
 have Y0:(a:Int)*kw=((a*K:Nat):Int):=(by rw [hK];push_cast;rfl);have O1:a*K+b<M*K:=(by have h1:=Nat.mul_le_mul_right K (show a+1<=M by omega);rw [Nat.add_mul,Nat.one_mul] at h1;omega);have K1:a*K<=81:=(by have h1:=Nat.mul_le_mul (show a<=9 by omega) (show K<=9 by omega);omega)
 obtain ⟨f0,f4,g4,i1,j1,v2⟩:=RdT.elem hws (((a:Int)*kw)+(b:Int))
 have G1:=areW_at Z0 i1;have F1:ws[a*K+b]?=some f0:=by rw [<-i1];congr 1;rw [Y0];omega
 exact drawF g1 [23] (fq 8 0 (j1.up 6 rfl)<|fb 9 5 0 4<|fb 10 4 0 2<|fn) [0,1,2,3,4,5,6,7,11,12,13,14,15,16,17,18,19,20,21,22,8,9,10,23,24,25,26] fun _ w2=>wV 4<|wMul (a:Int) kw<|wV 1<|wAdd ((a:Int)*kw) (b:Int)<|wI v2<|wV 2<|wAdd xx (b:Int)<|wV 1<|wQuo kw 2<|wSub (xx+(b:Int)) (kw.tdiv 2)<|wV 2<|wAdd yy (a:Int)<|wV 1<|wQuo kh 2<|wSub (yy+(a:Int)) (kh.tdiv 2)<|wL 0<|wG 1 4<|wG 5 2<|wO rfl<|cS (p9_pixel p e0 ((xx+(b:Int))-(kw.tdiv 2)) ((yy+(a:Int))-(kh.tdiv 2)) ⟨(hp.pix.fl 6)⟩ J0 M0 w2.flat) fun _ k1=>(by have U1:=pix_bd J0 M0 (x:=((xx+(b:Int))-(kw.tdiv 2))) (y:=((yy+(a:Int))-(kh.tdiv 2)));have T1:=wmul_bd (v:=(pixV p.v e0.policy e0.fill ((xx+(b:Int))-(kw.tdiv 2)) ((yy+(a:Int))-(kh.tdiv 2)))) (B:=4294967296) G1 (by simp only [Plane.v] at*;omega) (by decide);exact nilO ⟨⟨.inr ((j1.up 6 rfl).cell k1 (k:=0) rfl),dI,dI,dI,dI,dI,dI,trivial⟩,(wMul f0 (pixV p.v e0.policy e0.fill ((xx+(b:Int))-(kw.tdiv 2)) ((yy+(a:Int))-(kh.tdiv 2)))<|wAdd s2 (f0*(pixV p.v e0.policy e0.fill ((xx+(b:Int))-(kw.tdiv 2)) ((yy+(a:Int))-(kh.tdiv 2))))<|wV 1<|wN<|jXO 3 rfl<|sAdd (b:Int) 1<|jOI 2 rfl<|⟨(b+1,(s2+(f0*(pixV p.v e0.policy e0.fill ((xx+(b:Int))-(kw.tdiv 2)) ((yy+(a:Int))-(kh.tdiv 2)))))),od,alB,k1,om,(by rw [<-Nat.add_assoc,conv_succ hK om F1,<-W0];rw [D1,E1])⟩)⟩)
end Go.Proofs.YtghcddbhllkbmaaGreat
