/- Texts put together: The document's tree: Add. The document's tree: Run. The document's tree: Run, walked. Trees: the program's nodes and the document's are the same, in another order. The document's kernel: who is there, how many. The document's kernel as one part of memory: Spawn, Group, Exit, Sleep, Wait, Signal. The document's kernel as one part of memory: Exit, Sleep, Wait, Signal. The document's kernel as one part of memory: Wake, Runnable, Live, NewKernel. tontineref1.SameInts. The document's kernel as one part of memory: what its operations make of it; a kernel's Weight. The document's kernel: its tree's operations. The document's world as one part of memory. The document's world: what it tells of others. The document's world: threads, others. The document's world: Act, Epoch. The document's world: NewWorld. G: regions that draw, with several conditions held. Conditions: none. -/
import Derived.Test.YtfhkgohokbkgiaaGreatDoorMgWorldPlays0
set_option linter.unusedSimpArgs false
set_option linter.unusedVariables false
set_option maxRecDepth 100000
set_option maxHeartbeats 2000000
namespace Go.Proofs.YtfhkgohokbkgiaaGreatDoor
open Go.RowKit G Tryz
def insN (n:Nr):List Nr→List Nr
 | []=> [n]
 |y::r=>if y.id<n.id then y::insN n r else n::y::r
theorem Zi5 {n:Nr}:∀{L:List Nr} {k:Nat},k≤L.length→(∀(j:Nat) y,j<k→L[j]? =some y→y.id<n.id)→(∀y,L[k]? =some y→¬y.id<n.id)→L.take k++[n]++L.drop k=insN n L
 | [],k,hk,_,_=>by
  have:k=0:=by simpa using hk
  subst this;rfl
 |y::r,0,_,_,h=>by
  have:=h y rfl;rw[insN,if_neg this];rfl
 |y::r,k+1,hk,h1,h2=>by
  have h0:=h1 0 y (by omega) rfl;rw[insN,if_pos h0,←Zi5 (L:=r) (k:=k) (by simpa using hk) (fun j z hj hz=>h1 (j+1) z (by omega) (by simpa using hz)) (fun z hz=>h2 z (by simpa using hz))];rfl
theorem insN_mem {n:Nr}:∀{L:List Nr} {z:Nr},z∈insN n L↔z=n∨z∈L
 | [],z=>by simp[insN]
 | y::r,z=>by
  unfold insN;split
  ·rw[List.mem_cons,insN_mem,List.mem_cons]
   constructor
   ·rintro(h|h|h)
    ·exact .inr (.inl h)
    ·exact .inl h
    ·exact .inr (.inr h)
   ·rintro(h|h|h)
    ·exact .inr (.inl h)
    ·exact .inl h
    ·exact .inr (.inr h)
  ·simp
theorem ZhB (n:Nr):∀L:List Nr,(insN n L).Perm (L++[n])
 | []=> .refl _
 |y::r=>by
  unfold insN;split
  ·exact(ZhB n r).cons y
  ·exact(List.perm_append_comm (l₁:=[n]) (l₂:=y::r))
theorem Zgy :∀(f:Nat) (N:List Nr) (k:Int),Za2 f N k≤f
 |0,_,_=>Nat.le_refl _
 |f+1,N,k=>by
  rw[Za2];split
  ·omega
  ·have:=Zgy f N (by assumption:Nr).par;omega
def ZgD (id par wt now:Int)(thr:Bool):Nr:=⟨id,par,wt,now,thr,false,0⟩
def Zb4 (N:List Nr)(par id wt:Int)(thr:Bool):Int×List Nr:=
 if isW wt=false∨id<1 then(10,N)else match gt N par with
  |none=>(13,N)
  |some p=>if p.thr then(13,N)else if(gt N id).isSome then(20,N)else if thr=false∧4≤Za2 6 N par then(12,N)else if 60≤N.length then(14,N)
   else(0,insN (ZgD id par wt p.now thr) N)
theorem Ze4 (H :List SP) (t:Nat) (L:List Nr) (hw:WFN L) (par id wt:Int) (thr:Bool):U0 100 #[vp t,vi par,vi id,vi wt,.bool thr] (rtS t L::H) (vi (Zb4 L par id wt thr).1) (rtS t (Zb4 L par id wt thr).2::H):=by
 have hsk:=hw.sk;have hnd:=hsk.nd;have hl:=hsk.len;have hne:L≠ []:=by obtain⟨r,hr,_⟩:=hsk.root;exact List.ne_nil_of_mem hr
 refine eG func100 117 ?_;refine PT.openRt fun b o c=>?_
 refine Xq (Xg 1 (Ae 1 ?_));refine Xq (Xg 4 (Xr [(0,vp t),(1,vi par),(2,vi id),(3,vi wt),(4,.bool thr),(10,vi 0),(14,vp t),(15,vi par)] ?_ 2 2));cases hgp:gt L par with
 | none=>
  have hix:ixL L par= -1:=Zc0 (ZaX.1 hgp);refine Xs (Xa (some 16) _ (ZaR H t b o c L par (by omega))) (fun _=>?_) 1;rw[show ixL L par=(-1)by exact hix];refine Ae 1 ?_;refine Xq (Xb 0 (Xq (Xg 8 (Ar ?_ 7 1))));refine Xs (Xa (some 19) _ (ZcH _ wt)) (fun _=>?_) 6;refine Xr [(0,vp t),(1,vi par),(2,vi id),(3,vi wt),(4,.bool thr),(10,vi 0),(11,vi (-1)),(21,.bool (!(isW wt)))] ?_ 4 2;refine(Xs0 1 3 [(0,vp t),(1,vi par),(2,vi id),(3,vi wt),(4,.bool thr),(10,vi 0),(11,vi (-1)),(24,.bool ((!(isW wt))||(decide (id<1))))] ?_ ?_:RT _ _ _ _ _ _ 4 _)
  ·cases hg4:(!(isW wt))with
   |true=>
    refine Ae 3 ?_;exact mA ()
   |false=>
    refine Ae 3 ?_;exact mA ()
  refine Ae 1 ?_;refine Xc ((!(isW wt))||(decide (id<1))) (fun h1=>?_) (fun h1=>?_)
  ·have hz:Zb4 L par id wt thr=(10,L):=by rw[Zb4,if_pos (by simpa [Bool.or_eq_true] using h1)]
   refine Xq (Xg 1 (Ae 1 ?_));refine Xv (Zae (Zab (Y0 (vi 10) (fun w hs=>?_))));exact⟨(),by rw[hz],by rw[hz];exact Sat.closeRt hne hs⟩
  ·have hz:Zb4 L par id wt thr=(13,L):=by rw[Zb4,if_neg (by simp at h1 ⊢;exact h1),hgp]
   refine Xq (Xg 14 (Ae 14 ?_));refine Xc true (fun _=>?_) (fun h=>by cases h);refine Xq (Xg 1 (Ae 1 ?_));refine Xv (Zae (Zab (Y0 (vi 13) (fun w hs=>?_))));exact⟨(),by rw[hz],by rw[hz];exact Sat.closeRt hne hs⟩
 | some p =>
  obtain⟨i,hi,hix⟩:=Zc1 hnd hgp;have hil:=(gSs hi).1;refine Xs (Xa (some 16) _ (ZaR H t b o c L par (by omega))) (fun _=>?_) 1;rw[show ixL L par=(i:Int)by exact hix];refine Ae 1 ?_;refine Xq (Xb 0 (Xq (Xg 8 (Ar ?_ 7 1))));refine Xs (Xa (some 19) _ (ZcH _ wt)) (fun _=>?_) 6;refine Xr [(0,vp t),(1,vi par),(2,vi id),(3,vi wt),(4,.bool thr),(10,vi 0),(11,vi i),(21,.bool (!(isW wt)))] ?_ 4 2;refine(Xs0 1 3 [(0,vp t),(1,vi par),(2,vi id),(3,vi wt),(4,.bool thr),(10,vi 0),(11,vi i),(24,.bool ((!(isW wt))||(decide (id<1))))] ?_ ?_:RT _ _ _ _ _ _ 4 _)
  ·cases hg4:(!(isW wt))with
   |true=>
    refine Ae 3 ?_;exact mA ()
   |false=>
    refine Ae 3 ?_;exact mA ()
  refine Ae 1 ?_;refine Xc ((!(isW wt))||(decide (id<1))) (fun h1=>?_) (fun h1=>?_)
  ·have hz:Zb4 L par id wt thr=(10,L):=by rw[Zb4,if_pos (by simpa [Bool.or_eq_true] using h1)]
   refine Xq (Xg 1 (Ae 1 ?_));refine Xv (Zae (Zab (Y0 (vi 10) (fun w hs=>?_))));exact⟨(),by rw[hz],by rw[hz];exact Sat.closeRt hne hs⟩
  ·have h1':¬(isW wt=false∨id<1):=by simp at h1 ⊢;exact h1
   refine Xq (Xg 14 (Xr [(0,vp t),(1,vi par),(2,vi id),(3,vi wt),(4,.bool thr),(10,vi 0),(11,vi i),(28,.bool (decide ((i:Int)<0)))] ?_ 11 3));refine(Xs0 1 10 [(0,vp t),(1,vi par),(2,vi id),(3,vi wt),(4,.bool thr),(10,vi 0),(11,vi i),(38,.bool ((decide ((i:Int)<0))||p.thr))] ?_ ?_:RT _ _ _ _ _ _ 11 _)
   ·cases hg3:(decide ((i:Int)<0))with
    |true=>
     refine Ae 10 ?_;exact mA ()
    |false=>
     refine Xl [(0,vp t),(1,vi par),(2,vi id),(3,vi wt),(4,.bool thr),(10,vi 0),(11,vi i),(28,.bool false),(32,.slice (some ⟨b,o,none⟩) L.length c),(33,vi i)] [(⟨t,0,none⟩,.slice (some ⟨b,o,none⟩) L.length c)] (hasC (ba 0) Zaa) ?_ 5 5;refine Xs (Zav (Xi 159 (.tmp 32) (.tmp 33) b o L.length c i 7 163 (i:Int) 34 underlying159)) (fun _=>?_) 4;refine Xm [(0,vp t),(1,vi par),(2,vi id),(3,vi wt),(4,.bool thr),(10,vi 0),(11,vi i),(38,.bool p.thr)] [(⟨b,o+i*7+4,none⟩,.bool p.thr)] (hasC (Zac (E:=rnE) (xs:=L) 1 rfl (x:=p) hi (j:=4) rfl) Zaa) ?_ 4;refine Xp [(0,vp t),(1,vi par),(2,vi id),(3,vi wt),(4,.bool thr),(10,vi 0),(11,vi i),(38,.bool (false||p.thr))] ?_;exact Zcm () rfl rfl
   refine Xe [(0,vp t),(1,vi par),(2,vi id),(3,vi wt),(4,.bool thr),(10,vi 0),(11,vi i),(25,.bool ((decide ((i:Int)<0))||p.thr))] ?_ 1;cases hpt:p.thr with
   |true=>
    rw[show((decide ((i:Int)<0))||true)=true from by simp];have hz:Zb4 L par id wt thr=(13,L):=by rw[Zb4,if_neg h1',hgp];simp only[hpt,if_true]
    refine Xc true (fun _=>?_) (fun h=>by cases h);refine Xq (Xg 1 (Ae 1 ?_));refine Xv (Zae (Zab (Y0 (vi 13) (fun w hs=>?_))));exact⟨(),by rw[hz],by rw[hz];exact Sat.closeRt hne hs⟩
   | false =>
    rw[show((decide ((i:Int)<0))||false)=false from by simp];refine Xc false (fun h=>by cases h) (fun _=>?_);refine Xq (Xg 5 (Xr [(0,vp t),(1,vi par),(2,vi id),(3,vi wt),(4,.bool thr),(10,vi 0),(11,vi i),(40,vp t),(41,vi id)] ?_ 3 2));cases hgi:gt L id with
    |some y=>
     obtain⟨j,hj,hjx⟩:=Zc1 hnd hgi;refine Xs (Xa (some 42) _ (ZaR H t b o c L id (by omega))) (fun _=>?_) 2;rw[show ixL L id=(j:Int)by exact hjx];refine Xe [(0,vp t),(1,vi par),(2,vi id),(3,vi wt),(4,.bool thr),(10,vi 0),(11,vi i),(39,.bool (decide ((j:Int)≥0)))] ?_ 2;rw[show(decide ((j:Int)≥0))=true from by first|exact decide_eq_true (by omega)|(simp;done)|(simp;omega)];have hz:Zb4 L par id wt thr=(20,L):=by rw[Zb4,if_neg h1',hgp];simp[hpt,hgi]
     refine Xc true (fun _=>?_) (fun h=>by cases h);refine Xq (Xg 1 (Ae 1 ?_));refine Xv (Zae (Zab (Y0 (vi 20) (fun w hs=>?_))));exact⟨(),by rw[hz],by rw[hz];exact Sat.closeRt hne hs⟩
    | none =>
     have hjx:ixL L id= -1:=Zc0 (ZaX.1 hgi);refine Xs (Xa (some 42) _ (ZaR H t b o c L id (by omega))) (fun _=>?_) 2;rw[show ixL L id=(-1)by exact hjx];refine Xe [(0,vp t),(1,vi par),(2,vi id),(3,vi wt),(4,.bool thr),(10,vi 0),(11,vi i),(39,.bool false)] ?_ 2;refine Xc false (fun h=>by cases h) (fun _=>?_);have hdl:=Zgy 6 L par;refine Xq (Xj0 (fun(d:{d:Bool//d=true↔(thr=false∧4≤Za2 6 L par)})=> [(0,vp t),(1,vi par),(2,vi id),(3,vi wt),(4,.bool thr),(10,vi 0),(11,vi i),(44,.bool d.1)]) ?_ (fun d=>?_))
     ·cases hthr:thr with
      |true=>
       refine Xg 10 (Ae 10 ?_);exact mA (⟨false,by simp[hthr]⟩)
      |false=>
       refine Xg 10 (Ar ?_ 5 5);refine Xs (Xa (some 50) _ (ZfR H t b o c L hsk par)) (fun _=>?_) 4;refine Xe [(0,vp t),(1,vi par),(2,vi id),(3,vi wt),(4,.bool false),(10,vi 0),(11,vi i),(44,.bool (decide ((IntKind.i64.wrap ((Za2 6 L par:Int)+1))>4)))] ?_ 4;rw[show IntKind.i64.wrap ((Za2 6 L par:Int)+1)=((Za2 6 L par:Int)+1)by rw[w64 (by omega) (by omega)]];exact mA (⟨decide (((Za2 6 L par:Int)+1)>4),by rw[decide_eq_true_eq];simp[hthr];omega⟩)
     obtain⟨d,hd⟩:=d;refine Xc d (fun h4=>?_) (fun h4=>?_)
     ·have hz:Zb4 L par id wt thr=(12,L):=by rw[Zb4,if_neg h1',hgp];simp only[hpt,hgi];simp only[Bool.false_eq_true,if_false,Option.isSome_none];rw[if_pos (hd.1 h4)]
      refine Xq (Xg 1 (Ae 1 ?_));refine Xv (Zae (Zab (Y0 (vi 12) (fun w hs=>?_))));exact⟨(),by rw[hz],by rw[hz];exact Sat.closeRt hne hs⟩
     ·have h4':¬(thr=false∧4≤Za2 6 L par):=fun h=>by rw[hd.2 h]at h4;cases h4
      refine Xq (Xg 7 (Am 7 [(⟨t,0,none⟩,.slice (some ⟨b,o,none⟩) L.length c)] (hasC (ba 0) Zaa) ?_));refine Xc (decide ((L.length:Int)≥60)) (fun h5=>?_) (fun h5=>?_)
      ·have h5:=of_decide_eq_true h5;have hz:Zb4 L par id wt thr=(14,L):=by rw[Zb4,if_neg h1',hgp];simp only[hpt,hgi];simp only[Bool.false_eq_true,if_false,Option.isSome_none];rw[if_neg h4',if_pos (by omega)]
       refine Xq (Xg 1 (Ae 1 ?_));refine Xv (Zae (Zab (Y0 (vi 14) (fun w hs=>?_))));exact⟨(),by rw[hz],by rw[hz];exact Sat.closeRt hne hs⟩
      ·have h5:=of_decide_eq_false h5;have hz:Zb4 L par id wt thr=(0,insN (ZgD id par wt p.now thr) L):=by rw[Zb4,if_neg h1',hgp];simp only[hpt,hgi];simp only[Bool.false_eq_true,if_false,Option.isSome_none];rw[if_neg h4',if_neg (by omega)]
       refine Xk (Xq (Xg 16 (Al [(⟨t,0,none⟩,.slice (some ⟨b,o,none⟩) L.length c)] (hasC (ba 0) Zaa) ?_ 8 8)));refine Xs (Zav (Xi 159 (.tmp 67) (.tmp 68) b o L.length c i 7 163 (i:Int) 69 underlying159)) (fun _=>?_) 7;refine Xl [(0,vp t),(2,vi id),(10,vi 0),(74,.agg #[vi id,vi par,vi wt,vi p.now,.bool thr,.bool false,vi 0])] [(⟨b,o+i*7+6,none⟩,vi p.now)] (hasC (Zac (E:=rnE) (xs:=L) 1 rfl (x:=p) hi (j:=6) rfl) Zaa) ?_ 2 5;refine Xs (Xn 163 [vi 0,vi 0,vi 0,vi 0,.bool false,.bool false,vi 0] (some 12) (fun b=>vp b)) (fun b1=>?_) 1;refine Xs (Xz [(0,vi id),(1,vi par),(2,vi wt),(3,vi p.now),(4,.bool thr),(5,.bool false),(6,vi 0)]) (fun _=>?_) 0;refine endR ?_;refine Xq (Xg 1 (Xe [(12,vp b1),(0,vp t),(2,vi id),(10,vi 0),(13,vi 0)] ?_ 1));refine Xq (Xj0 (fun(q:{q:Nat//q≤L.length∧L.take q++[ZgD id par wt p.now thr]++L.drop q=insN (ZgD id par wt p.now thr) L})=> [(0,vp t),(2,vi id),(10,vi 0),(12,vp b1),(13,vi (q.1:Int))]) ?_ (fun q=>?_))
       ·refine Xb 1 (Xp [(0,vp t),(2,vi id),(10,vi 0),(12,vp b1),(13,vi 0)] (Xl0 (fun(q:Nat)=> [(0,vp t),(2,vi id),(10,vi 0),(12,vp b1),(13,vi q)]) (fun k (q:Nat)=>k+q=L.length∧∀(j:Nat) y,j<q→L[j]? =some y→y.id<id) L.length 0 Kr ⟨by simp,fun j y hj=>by omega⟩ ?_));rintro k q ⟨hkq,hlt⟩;rcases Nat.lt_or_ge q L.length with hq|hq
        ·obtain⟨y,hy⟩:∃y,L[q]? =some y:=⟨_,gEe hq⟩
         refine Xq (Xq (Xg 20 (Xl [(0,vp t),(2,vi id),(10,vi 0),(12,vp b1),(13,vi q),(82,.bool (decide ((q:Int)< (L.length:Int))))] [(⟨t,0,none⟩,.slice (some ⟨b,o,none⟩) L.length c)] (hasC (ba 1) Zaa) ?_ 12 8)));refine(Xs0 0 12 [(0,vp t),(2,vi id),(10,vi 0),(12,vp b1),(13,vi q),(94,.bool ((decide ((q:Int)< (L.length:Int)))&& (decide (y.id<id))))] ?_ ?_:RT _ _ _ _ _ _ 12 _)
         ·cases hg8:(decide ((q:Int)< (L.length:Int)))with
          |true=>
           refine Xl [(0,vp t),(2,vi id),(10,vi 0),(12,vp b1),(13,vi q),(82,.bool true),(86,.slice (some ⟨b,o,none⟩) L.length c),(87,vi q)] [(⟨t,0,none⟩,.slice (some ⟨b,o,none⟩) L.length c)] (hasC (ba 1) Zaa) ?_ 7 5;refine Xs (Zav (Xi 159 (.tmp 86) (.tmp 87) b o L.length c q 7 163 (q:Int) 88 underlying159)) (fun _=>?_) 6;refine Xm [(0,vp t),(2,vi id),(10,vi 0),(12,vp b1),(13,vi q),(94,.bool (decide (y.id<id)))] [(⟨b,o+q*7,none⟩,vi y.id)] (hasC (Zac (E:=rnE) (xs:=L) 2 rfl (x:=y) hy (j:=0) rfl) Zaa) ?_ 6;refine Xp [(0,vp t),(2,vi id),(10,vi 0),(12,vp b1),(13,vi q),(94,.bool (true&& (decide (y.id<id))))] ?_;exact Zcm () rfl rfl
          |false=>
           refine Ae 12 ?_;refine Xp [(0,vp t),(2,vi id),(10,vi 0),(12,vp b1),(13,vi q),(94,.bool (false&& (decide (y.id<id))))] ?_;exact Zcm () rfl rfl
         refine endR ?_;by_cases h6:y.id<id
         ·rw[show((decide ((q:Int)< (L.length:Int)))&& (decide (y.id<id)))=true from by simp;omega];refine Xc true (fun _=>?_) (fun h=>by cases h);refine Xk (Xb 2 (Xg 3 (Xe [(0,vp t),(2,vi id),(10,vi 0),(12,vp b1),(13,vi (IntKind.i64.wrap ((q:Int)+1)))] ?_ 3)));rw[show IntKind.i64.wrap ((q:Int)+1)=((q:Int)+1)by rw[w64 (by omega) (by omega)]];exact gA (k-1) (q+1) (by omega) ⟨by omega,fun m z hm hz=>by by_cases cj:m=q;(subst cj;rw[hy]at hz;cases hz;exact h6);exact hlt m z (by omega) hz⟩
         ·rw[show((decide ((q:Int)< (L.length:Int)))&& (decide (y.id<id)))=false from by simp;omega];refine Xc false (fun h=>by cases h) (fun _=>?_);exact Xx 1 (Zao (Zao (Zax (mA (⟨q,by omega,Zi5 (n:=ZgD id par wt p.now thr) (L:=L) (k:=q) (by omega) (fun j y hj hy=>hlt j y hj hy) (fun z hz=>by rw[hy]at hz;cases hz;exact h6)⟩)))))
        ·refine Xq (Xq (Xg 20 (Xl [(0,vp t),(2,vi id),(10,vi 0),(12,vp b1),(13,vi q),(82,.bool (decide ((q:Int)< (L.length:Int))))] [(⟨t,0,none⟩,.slice (some ⟨b,o,none⟩) L.length c)] (hasC (ba 1) Zaa) ?_ 12 8)));rw[show(decide ((q:Int)< (L.length:Int)))=false from by first|exact decide_eq_false (by omega)|(simp;done)|(simp;omega)];refine Ae 12 ?_;refine Xc false (fun h=>by cases h) (fun _=>?_);refine Xx 1 (Zao (Zao (Zax (Xp [(0,vp t),(2,vi id),(10,vi 0),(12,vp b1),(13,vi q)] ?_))));exact Zcm (⟨q,by omega,Zi5 (n:=ZgD id par wt p.now thr) (L:=L) (k:=q) (by omega) (fun j y hj hy=>hlt j y hj hy) (fun z hz=>by rw[List.getElem?_eq_none hq]at hz;cases hz)⟩) rfl rfl
       obtain⟨q,hq,hins⟩:=q;refine PT.know (KR.le (s:=⟨some ⟨b,o,none⟩,c,L⟩) (Zad 2 rfl)) ?_;rintro⟨hcle,_⟩;dsimp only at hcle;refine PT.rowNil rnE 163 ?_;refine Xq (Xy0 1 [20] 21 ?_);refine At' [0,1,2,3,4,5,8,11,12,13,14,15] [(⟨t,0,none⟩,.slice (some ⟨b,o,none⟩) L.length c),(⟨b1,0,none⟩,vi id),(⟨b1,1,none⟩,vi par),(⟨b1,2,none⟩,vi wt),(⟨b1,3,none⟩,vi p.now),(⟨b1,4,none⟩,.bool thr),(⟨b1,5,none⟩,.bool false),(⟨b1,6,none⟩,vi 0),(⟨t,0,none⟩,.slice (some ⟨b,o,none⟩) L.length c)] (hasC (ba 1) (hasC (ba 0) (hasC (ba 0) (hasC (ba 0) (hasC (ba 0) (hasC (ba 0) (hasC (ba 0) (hasC (ba 0) (hasC (ba 1) Zaa))))))))) ?_;refine Xu 6 (Zlo 159 (.tmp 101) none (some (.tmp 102)) (some ⟨b,o,none⟩) L.length c 0 q 7 163 (some 103) (fun _=>Kr) Kr Kr (fun _=>Kr) (.inl ⟨rfl,rfl⟩) (.inr ⟨_,.i64,(q:Int),rfl,fun _=>by kernel_rfl,by first|rfl|omega⟩) underlying159 Kr (by omega) (by omega)) ?_;refine Xu 16 (Zlo 159 (.tmp 111) (some (.tmp 112)) none (some ⟨b,o,none⟩) L.length c q L.length 7 163 (some 113) (fun _=>Kr) Kr Kr (fun _=>Kr) (.inr ⟨_,.i64,(q:Int),rfl,fun _=>by kernel_rfl,by first|rfl|omega⟩) (.inl ⟨rfl,rfl⟩) underlying159 Kr (by omega) (by omega)) ?_;refine Xw 7 9 ?_ ?_
       ·refine Xh 7 (Xf (E:=rnE) 159 (.const (.slice none 0 0)) (.tmp 103) none 0 [] (L.take q) (.slice (ZbC (some ⟨b,o,none⟩) c 0 7) (q-0) (c-0)) 104 underlying159 (Zcj) (Zkh (Zad 3 rfl) (by omega) (by omega)) (by simp;omega)) (fun r2=>?_);refine Xo 9 (Xn 163 [vi id,vi par,vi wt,vi p.now,.bool thr,.bool false,vi 0] (some 106) (fun b=> .slice (some ⟨b,0,none⟩) 1 1)) (fun b3=>?_);refine DT.pick 1 rfl ?_;refine Xo 10 (Xf (E:=rnE) 159 (.tmp 104) (.tmp 106) r2.1 r2.2 ([]++(L.take q)) [ZgD id par wt p.now thr] (.slice (some ⟨b3,0,none⟩) 1 1) 107 underlying159 (Zcj) (Zbr (x:=ZgD id par wt p.now thr) 1 rfl) (by simp;omega)) (fun r4=>?_);refine Xo 17 (Xf (E:=rnE) 159 (.tmp 107) (.tmp 113) r4.1 r4.2 (([]++(L.take q))++[ZgD id par wt p.now thr]) (L.drop q) (.slice (ZbC (some ⟨b,o,none⟩) c q 7) (L.length-q) (c-q)) 114 underlying159 (Zcj) (dropRd (Zad 4 rfl) (by omega)) (by simp;omega)) (fun r5=>?_);refine At' [18,19] [] Zaa ?_;refine DT.pick 3 rfl ?_;refine Xo 20 (Xz [(0,.slice r5.1 (((([]++(L.take q))++[ZgD id par wt p.now thr])++(L.drop q)).length) r5.2)]) (fun _=>?_);refine Xd (Xq (Xg 1 (Xe [(10,vi 0)] ?_ 1)));refine Xv ?_;refine PT.pick 4 rfl ?_;refine PT.drop ?_;refine PT.pick 3 rfl ?_;refine PT.drop ?_;refine PT.pick 2 rfl ?_;refine PT.drop ?_;rw[show((([]++(L.take q))++[ZgD id par wt p.now thr])++(L.drop q))=(insN (ZgD id par wt p.now thr) L)by exact hins];refine Y0 (vi 0) (fun w hs=>?_);exact⟨(),by rw[hz],by rw[hz];exact Sat.closeRt (List.ne_nil_of_mem (insN_mem.2 (.inl rfl))) hs⟩
       ·refine Xh 9 (Xn 163 [vi id,vi par,vi wt,vi p.now,.bool thr,.bool false,vi 0] (some 106) (fun b=> .slice (some ⟨b,0,none⟩) 1 1)) (fun b2=>?_);refine DT.pick 1 rfl ?_;refine Xo 7 (Xf (E:=rnE) 159 (.const (.slice none 0 0)) (.tmp 103) none 0 [] (L.take q) (.slice (ZbC (some ⟨b,o,none⟩) c 0 7) (q-0) (c-0)) 104 underlying159 (Zcj) (Zkh (Zad 4 rfl) (by omega) (by omega)) (by simp;omega)) (fun r3=>?_);refine Xo 10 (Xf (E:=rnE) 159 (.tmp 104) (.tmp 106) r3.1 r3.2 ([]++(L.take q)) [ZgD id par wt p.now thr] (.slice (some ⟨b2,0,none⟩) 1 1) 107 underlying159 (Zcj) (Zbr (x:=ZgD id par wt p.now thr) 1 rfl) (by simp;omega)) (fun r4=>?_);refine Xo 17 (Xf (E:=rnE) 159 (.tmp 107) (.tmp 113) r4.1 r4.2 (([]++(L.take q))++[ZgD id par wt p.now thr]) (L.drop q) (.slice (ZbC (some ⟨b,o,none⟩) c q 7) (L.length-q) (c-q)) 114 underlying159 (Zcj) (dropRd (Zad 4 rfl) (by omega)) (by simp;omega)) (fun r5=>?_);refine At' [18,19] [] Zaa ?_;refine DT.pick 3 rfl ?_;refine Xo 20 (Xz [(0,.slice r5.1 (((([]++(L.take q))++[ZgD id par wt p.now thr])++(L.drop q)).length) r5.2)]) (fun _=>?_);refine Xd (Xq (Xg 1 (Xe [(10,vi 0)] ?_ 1)));refine Xv ?_;refine PT.pick 4 rfl ?_;refine PT.drop ?_;refine PT.pick 3 rfl ?_;refine PT.drop ?_;refine PT.pick 2 rfl ?_;refine PT.drop ?_;rw[show((([]++(L.take q))++[ZgD id par wt p.now thr])++(L.drop q))=(insN (ZgD id par wt p.now thr) L)by exact hins];refine Y0 (vi 0) (fun w hs=>?_);exact⟨(),by rw[hz],by rw[hz];exact Sat.closeRt (List.ne_nil_of_mem (insN_mem.2 (.inl rfl))) hs⟩
theorem Zku (H:List SP){p w_:Int}(hp:0≤p∧p≤1099511627776)(hw:isW w_=true):US 72 #[vi p,vi w_] H (vi (p+ZaH w_)):=by
 have hs:=ZaV hw;refine eG func72 9 ?_;refine Xq<|Xg 1<|Be<|Xq<|Xg 5<|Br 3 2<|Bs 2 (Xa (some 7) _ (Zgn _ w_))<|Ce [(4,vi (IntKind.i64.wrap (p+(ZaH w_))))]<|Xv ?_;rw[show IntKind.i64.wrap (p+(ZaH w_))=(p+(ZaH w_))by rw[w64 (by omega) (by omega)]];refine Y0 (vi (p+(ZaH w_))) (fun w hs=>?_);exact⟨(),rfl,hs⟩
theorem ZjG {l:List Nr}(hn:(l.map (·.id)).Nodup){y:Nr}(hy:y∈l)(h:∀z∈l,ZcI z y=false):least l=some y:=by
 cases hl:least l with
 |none=>rw[ZbX.1 hl]at hy;cases hy
 | some m=>
  obtain⟨hm,hmin⟩:=least_some hl;have h1:=h m hm;have h2:=hmin y hy;have:m.id=y.id:=by
   simp only[ZcI,Bool.or_eq_false_iff,decide_eq_false_iff_not,Bool.and_eq_false_imp,decide_eq_true_eq]at h1 h2;by_cases c:m.pass=y.pass
   ·have:=h1.2 c;have:=h2.2 c.symm;omega
   ·omega
  rw[nd_eq hn hm hy this]
theorem ZmT {N:List Nr}(hn:(N.map (·.id)).Nodup)(k:Int):((Zcy N k).map (·.id)).Nodup:=List.Nodup.sublist (List.Sublist.map _ List.filter_sublist) hn
def Best (M:List Nr)(g:Int)(u:Nat)(best:Int):Prop:=
 (best= -1∧∀(j:Nat) z,j<u→M[j]? =some z→(z.par==g&&z.rdy)=false)∨
 ∃(m:Nat) (y:Nr),best=(m:Int)∧m<u∧M[m]? =some y∧y.par=g∧y.rdy=true∧∀(j:Nat) z,j<u→M[j]? =some z→z.par=g→z.rdy=true→ZcI z y=false
theorem Best.start (M:List Nr)(g:Int):Best M g 0 (-1):= .inl ⟨rfl,fun j z hj=>by omega⟩
theorem Best.no {M:List Nr}{g:Int}{u:Nat}{best:Int}(h:Best M g u best){x:Nr}(hx:M[u]? =some x)(hn:(x.par==g&&x.rdy)=false):Best M g (u+1) best:=by
 rcases h with⟨h1,h2⟩|⟨m,y,h1,h2,h3,h4,h5,h6⟩
 ·refine .inl ⟨h1,fun j z hj hz=>?_⟩
  by_cases c:j=u
  ·subst c;rw[hx]at hz;cases hz;exact hn
  ·exact h2 j z (by omega) hz
 ·refine .inr ⟨m,y,h1,by omega,h3,h4,h5,fun j z hj hz hp hr=>?_⟩
  by_cases c:j=u
  ·subst c;rw[hx]at hz;cases hz;simp[hp,hr]at hn
  ·exact h6 j z (by omega) hz hp hr
theorem Best.new {M:List Nr}{g:Int}{u:Nat}{best:Int}(h:Best M g u best){x:Nr}(hx:M[u]? =some x)(hp:x.par=g)(hr:x.rdy=true)(hb:∀(m:Nat) y,best=(m:Int)→M[m]? =some y→x.pass<y.pass):Best M g (u+1) (u:Int):=by
 refine .inr ⟨u,x,rfl,by omega,hx,hp,hr,fun j z hj hz hzp hzr=>?_⟩;by_cases c:j=u
 ·subst c;rw[hx]at hz;cases hz;simp[ZcI]
 ·rcases h with⟨h1,h2⟩|⟨m,y,h1,h2,h3,h4,h5,h6⟩
  ·have:=h2 j z (by omega) hz;simp[hzp,hzr]at this
  ·have h7:=h6 j z (by omega) hz hzp hzr
   have h8:=hb m y h1 h3;simp only[ZcI,Bool.or_eq_false_iff,decide_eq_false_iff_not,Bool.and_eq_false_imp,decide_eq_true_eq]at h7 ⊢;exact⟨by omega,fun e=>by omega⟩
theorem Best.keep {M:List Nr}(hs:(M.map (·.id)).Pairwise (· < ·)){g:Int}{u m:Nat}{y:Nr}(h:Best M g u (m:Int))(hm:M[m]? =some y){x:Nr}(hx:M[u]? =some x)(hb:¬x.pass<y.pass):Best M g (u+1) (m:Int):=by
 rcases h with⟨h1,_⟩|⟨m',y',h1,h2,h3,h4,h5,h6⟩
 ·omega
 ·have:m'=m:=by omega
  subst this;rw[h3]at hm;cases hm;refine .inr ⟨m',y,rfl,by omega,h3,h4,h5,fun j z hj hz hp hr=>?_⟩;by_cases c:j=u
  ·subst c;rw[hx]at hz;cases hz
   have hlt:y.id<x.id:=by
    have:=List.pairwise_iff_getElem.1 hs m' j (by rw[List.length_map];exact(gSs h3).1) (by rw[List.length_map];exact(gSs hx).1) h2;simp only[List.getElem_map]at this;rw[(gSs h3).2,(gSs hx).2]at this;exact this
   simp only[ZcI,Bool.or_eq_false_iff,decide_eq_false_iff_not,Bool.and_eq_false_imp,decide_eq_true_eq];exact⟨hb,fun _=>by omega⟩
  ·exact h6 j z (by omega) hz hp hr
theorem Best.done {M:List Nr}(hn:(M.map (·.id)).Nodup){g:Int}{best:Int}(h:Best M g M.length best)(hk:KX M g):∃(m:Nat) (y:Nr),best=(m:Int)∧M[m]? =some y∧y.par=g∧y.rdy=true∧least (Zcy M g)=some y:=by
 rcases h with⟨_,h2⟩|⟨m,y,h1,_,h3,h4,h5,h6⟩
 ·obtain⟨z,hz,hp,hr⟩:=hk
  obtain⟨j,hj⟩:=List.mem_iff_getElem?.1 hz;have:=h2 j z (gSs hj).1 hj;simp[hp,hr]at this
 ·refine⟨m,y,h1,h3,h4,h5,ZjG (ZmT hn g) (ZbP.2 ⟨gMm h3,h4,h5⟩) fun z hz=>?_⟩
  obtain⟨a,b,c⟩:=ZbP.1 hz;obtain⟨j,hj⟩:=List.mem_iff_getElem?.1 a;exact h6 j z (gSs hj).1 hj b c
def Zjo (L:List Nr)(wy:List Int):List Int:=wy.map fun a=>(L.map (·.id)).getD a.toNat 0
structure RrI (L:List Nr)(rk:Int→Nat)(f:Nat)(M:List Nr)(i:Nat)(wy:List Int)(x:Nr):Prop where
 sk:SK M
 rkk:RK M rk
 dn:DN rk (rk x.id) M
 at':M[i]? =some x
 rdy:x.rdy=true
 fu:f+rk x.id=7
 wl:f+wy.length=6
 down:ZbL 6 L 0 []=ZbL f M x.id (Zjo L wy)
 rd:∀z∈M,z.thr=false→(z.rdy=true↔KX M z.id)
 ids:M.map (·.id)=L.map (·.id)
 way:∀a∈wy,∃j:Nat,a=(j:Int)∧j<M.length
theorem Zkt {L:List Nr}(hs:SK L)(hsr:(L.map (·.id)).Pairwise (· < ·)):∃r,L[0]? =some r∧r.id=0:=by
 obtain⟨r,hr,r0⟩:=hs.root;obtain⟨i,hi⟩:=List.mem_iff_getElem?.1 hr;have hil:=(gSs hi).1;refine⟨L[0]'(by omega),gEe (by omega),?_⟩;have h0:=hs.pos (List.getElem_mem (show 0<L.length by omega));by_cases c:i=0
 ·subst c;rw[(gSs hi).2,r0]
 ·have:=List.pairwise_iff_getElem.1 hsr 0 i (by rw[List.length_map];omega) (by rw[List.length_map];omega) (by omega)
  simp only[List.getElem_map]at this;rw[(gSs hi).2,r0]at this;omega
theorem any_root {L:List Nr}(hw:WFN L){r:Nr}(hr:r∈L)(r0:r.id=0):(L.any fun x=>x.par==0&&x.rdy)=r.rdy:=by
 have h:=hw.rd r hr (hw.sk.rt r hr r0).2;rw[r0]at h;cases hrd:r.rdy with
 |true=>rw[ZgB,Zem];exact h.1 hrd
 |false=>
  cases ha:L.any fun x=>x.par==0&&x.rdy with
  |false=>rfl
  |true=>rw[h.2 (Zem.1 (ZgB.1 ha))]at hrd;cases hrd
theorem RrI.start {L:List Nr}{rk:Int→Nat}(hw:WFN L)(hrk:RK L rk){r:Nr}(h0:L[0]? =some r)(r0:r.id=0)(hrd:r.rdy=true):RrI L rk 6 L 0 [] r:=
 ⟨hw.sk,hrk,hw.dn rk _,h0,hrd,by rw[(hrk r (gMm h0)).1 r0],rfl,by rw[r0];rfl,hw.rd,rfl,fun a ha=>by cases ha⟩
theorem RrI.leaf {L:List Nr}{rk:Int→Nat}{f:Nat}{M:List Nr}{i:Nat}{wy:List Int}{x:Nr}(h:RrI L rk f M i wy x)(ht:x.thr=true):ZbL 6 L 0 []=(x.id,(Zjo L wy).foldl Za6 M):=by
 have hx:=gMm h.at';have hr:=(h.rkk x hx).2.2.1;have hf:=h.fu;obtain⟨g,rfl⟩:∃g,f=g+1:=⟨f-1,by omega⟩
 have hk:Zcy M x.id=[]:=by
  cases hkk:Zcy M x.id with
  |nil=>rfl
  |cons y ys=>
   have hy:y∈Zcy M x.id:=by rw[hkk];simp
   obtain⟨h1,h2,_⟩:=ZbP.1 hy;exact absurd h2 (ZeF h.sk hx ht y h1)
 rw[h.down,ZbL,hk];rfl
theorem RrI.next {L:List Nr}{rk:Int→Nat}{f:Nat}{M:List Nr}{i:Nat}{wy:List Int}{x:Nr}(h:RrI L rk f M i wy x){m:Nat}{y:Nr}(hm:M[m]? =some y)(hyp:y.par=x.id)(hyr:y.rdy=true)(hl:least (Zcy M x.id)=some y):
  RrI L rk (f-1) (upN (upN M x.id (nwF y.pass)) y.id (psF (y.pass+ZaH y.wt))) m (wy++[(i:Int)]) (psF (y.pass+ZaH y.wt) y)∧y.id≠x.id∧f-1<f:=by
 have hx:=gMm h.at';have hy:=gMm hm;have hry:=RK.up h.sk h.rkk hy hx hyp.symm;have hrx:=h.rkk.pos hx;have hry5:=(h.rkk y hy).2.2.1;have hf:=h.fu;have hil:=(gSs h.at').1;have hml:=(gSs hm).1;have hne:y.id≠x.id:=fun e=>by rw[e]at hry;omega
 obtain⟨g,rfl⟩:∃g,f=g+1:=⟨f-1,by omega⟩
 obtain⟨hd2,_,_⟩:=h.dn.step h.sk h.rkk hx hy hyp hyr (least_some hl).2;have s1:Skel (nwF y.pass):=Zcx _;have s2:Skel (psF (y.pass+ZaH y.wt)):=Zcw _;have hsk2:=(h.sk.upN s1 (k:=x.id)).upN s2 (k:=y.id);have hids:(upN (upN M x.id (nwF y.pass)) y.id (psF (y.pass+ZaH y.wt))).map (·.id)=L.map (·.id):=by rw[Zdu s2.id,Zdu s1.id,h.ids]
 have hm1:=ZnL h.sk.nd h.at' hm hne (nwF y.pass);have hm2:(upN (upN M x.id (nwF y.pass)) y.id (psF (y.pass+ZaH y.wt)))[m]? =some (psF (y.pass+ZaH y.wt) y):=by
  rw[upN,List.getElem?_map,hm1];simp
 have hl2:(upN (upN M x.id (nwF y.pass)) y.id (psF (y.pass+ZaH y.wt))).length=M.length:=by simp[upN]
 have e0:upN (upN M x.id (nwF y.pass)) y.id (psF (y.pass+ZaH y.wt))=M.map (fun z=>(fun z=>if z.id==y.id then psF (y.pass+ZaH y.wt) z else z) ((fun z=>if z.id==x.id then nwF y.pass z else z) z)):=by rw[upN,upN,List.map_map];rfl
 have st:Still (fun z=>(fun z=>if z.id==y.id then psF (y.pass+ZaH y.wt) z else z) ((fun z=>if z.id==x.id then nwF y.pass z else z) z)):=(Still.ite (ZdZ _)).comp (Still.ite (Ze5 _));refine⟨⟨hsk2,(h.rkk.ups s1).ups s2,hd2,hm2,hyr,by show g+1-1+rk y.id=7;omega,by have:=h.wl;simp;omega,?_,?_,hids,?_⟩,hne,by omega⟩
 ·have hw:Zjo L (wy++[(i:Int)])=Zjo L wy++[x.id]:=by
   rw[Zjo,List.map_append];congr 1;simp only[List.map_cons,List.map_nil,Int.toNat_natCast];rw[←h.ids,List.getD_eq_getElem?_getD,List.getElem?_map,h.at'];rfl
  rw[h.down,ZbL,hl,hw];rfl
 ·rw[e0]
  intro z hz ht;obtain⟨v,hv,rfl⟩:=List.mem_map.1 hz;rw[KX.still st,st.rdy,st.sk.id];exact h.rd v hv (by rw[←st.sk.thr];exact ht)
 ·intro a ha
  rcases List.mem_append.1 ha with ha|ha
  ·obtain⟨j,hj,hjl⟩:=h.way a ha;exact⟨j,hj,by rw[hl2];exact hjl⟩
  ·simp at ha;exact⟨i,ha,by rw[hl2];exact hil⟩
theorem ZrT :Ety Tryz.prog (kE .i64) 3 (.int .i64 0):=Ety.of (b:=8) Kr (by decide) Kr
structure RrS where
 M:List Nr
 i:Nat
 wy:List Int
 a:Option Addr
 c:Nat
def ZcV (g P:Int)(j:Nat)(M:List Nr):List Nr:=(M.take j).map (shG g P)++M.drop j
theorem Zjr (g P:Int)(j:Nat)(M:List Nr):(ZcV g P j M).length=M.length:=by simp[ZcV];omega
theorem ZnS (g P:Int)(M:List Nr):ZcV g P M.length M=M.map (shG g P):=by simp[ZcV]
theorem ZlR {g P:Int}{j i:Nat}{M:List Nr}{z:Nr}(h:M[i]? =some z):(ZcV g P j M)[i]? =some (if i<j then shG g P z else z):=by
 have hi:=(gSs h).1;unfold ZcV;by_cases c:i<j
 ·rw[List.getElem?_append_left (by simp;omega),List.getElem?_map,List.getElem?_take_of_lt c,h,if_pos c];rfl
 ·rw[List.getElem?_append_right (by simp;omega),if_neg c]
  simp only[List.length_map,List.length_take];rw[List.getElem?_drop,Nat.min_eq_left (by omega),show j+(i-j)=i by omega,h]
theorem ZgS {g P:Int}{j:Nat}{M:List Nr}{z:Nr}(h:M[j]? =some z):ZcV g P (j+1) M=(ZcV g P j M).set j (shG g P z):=by
 have hj:=(gSs h).1;unfold ZcV;rw[List.take_add_one,h,List.map_append,List.set_append,if_neg (by simp;omega)];simp only[Option.toList_some,List.map_cons,List.map_nil,List.length_map,List.length_take];rw[Nat.min_eq_left (by omega),Nat.sub_self,List.drop_eq_getElem_cons hj,(gSs h).2,List.set_cons_zero,List.append_assoc];rfl
theorem ZnV {α:Type}{l:List α}{i:Nat}{x:α}(h:l[i]? =some x):l.set i x=l:=ZeG h
theorem ZpK {L M:List Nr}(hids:M.map (·.id)=L.map (·.id)){a:Nat}{g:Nr}(h:M[a]? =some g):(L.map (·.id)).getD (a:Int).toNat 0=g.id:=by
 rw[←hids,Int.toNat_natCast,List.getD_eq_getElem?_getD,List.getElem?_map,h];rfl
theorem Zl4 (H :List SP) (t:Nat) (L:List Nr) (hw:WFN L) (hsr:(L.map (·.id)).Pairwise (· < ·)):U0 34 #[vp t] (rtS t L::H) (.tuple #[vi (Zcd L).1.1,.bool (Zcd L).1.2]) (rtS t (Zcd L).2::H):=by
 have hsk:=hw.sk;have hnd:=hsk.nd;have hl:=hsk.len;obtain⟨rk,hrk⟩:=hsk.rk;obtain⟨r,hr0,hr00⟩:=Zkt hsk hsr;have hrL:=gMm hr0;have hg0:gt L 0=some r:=hr00▸ZbY hnd hrL;have hne:L≠ []:=List.ne_nil_of_mem hrL;refine eG func34 222 ?_;refine PT.openRt fun b o c=>?_
 refine Xq<|Xg 2<|Be<|Xq<|Xq<|Xg 3<|Cr 2 1 [(0,vp t),(2,vi 0),(3,.bool false),(12,vp t)]<|Bs 1 (Xa1 (some 13) (fun _=> .bool (L.any fun x=>x.par==0&&x.rdy)) (fun _=>(blk t 161 [.slice (sA b o) L.length c]::row rnE 163 (.slice (sA b o) L.length c) L::H)) (ZfL H t b o c L 0 (by omega))) ?_;rw[show(L.any fun x=>x.par==0&&x.rdy)=r.rdy by exact any_root hw hrL hr00];refine Ce [(0,vp t),(2,vi 0),(3,.bool false),(14,.bool (!r.rdy))] ?_;cases hrd:r.rdy with
 |false=>
  refine cT<|Xq<|Xg 2<|Be<|Xv (Zab ?_);have hz:Zcd L=((0,false),L):=by rw[Zcd,hg0];simp[hrd]
  refine Y0 (.tuple #[vi 0,.bool false]) (fun w hs=>?_);exact⟨(),by rw[hz],by rw[hz];exact Sat.closeRt hne hs⟩
 | true =>
  refine PT.rowNil rnE 163 ?_;refine cF<|Xk<|Xq<|Xg 9<|Cl 4 5 [(0,vp t),(2,vi 0),(3,.bool false),(15,vp t),(19,.slice (sA b o) L.length c)] [(⟨t,0,none⟩,.slice (sA b o) L.length c)] (hasC (ba 1) Zaa)<|Bx 3 (Xf (E:=rnE) 159 (.const (.slice none 0 0)) (.tmp 19) none 0 [] L (.slice (sA b o) L.length c) 20 underlying159 (Zcj) (Zad 2 rfl) (by simp;omega)) (fun r1=>?_);rw[show([]++L)=L by rfl];refine Cr 1 2 [(20,.slice r1.1 L.length r1.2),(0,vp t),(2,vi 0),(3,.bool false),(22,vp t)]<|Xh0 ?_ 1 1;refine Bs 0 (Xz [(0,.slice r1.1 L.length r1.2)])<|endR<|PT.pick 2 rfl<|PT.drop ?_;refine PT.know (KR.isSome (s:=⟨r1.1,r1.2,L⟩) (Zad 1 rfl) hne) ?_;rintro⟨wb,wo,hA2⟩;dsimp only at hA2;rw[hA2];obtain⟨wc,hwc⟩:∃wc,r1.2=wc:=⟨_,rfl⟩
  rw[hwc];refine PT.rowNil (kE .i64) 3 ?_;refine Xq<|Xg 1<|Be<|Xq<|Xg 1<|Be<|Xq (Xb 0 (Xp [(0,vp t),(2,vi 0),(3,.bool false),(4,vi 0),(5,.slice none 0 0)] ?_));refine ZbV (fun(s:RrS)=> [(0,vp t),(2,vi 0),(3,.bool false),(4,vi (s.i:Int)),(5,.slice s.a s.wy.length s.c)]) (fun(s:RrS)=>(row (kE .i64) 3 (.slice s.a s.wy.length s.c) s.wy::blk t 161 [.slice (sA wb wo) s.M.length wc]::row rnE 163 (.slice (sA wb wo) s.M.length wc) s.M::H)) (fun k (s:RrS)=>∃x,RrI L rk k s.M s.i s.wy x) 6 ⟨L,0,[],none,0⟩ Kr ⟨r,RrI.start hw hrk hr0 hr00 hrd⟩ ?_;rintro k ⟨M,i,wy,A,cp⟩ ⟨x,hI⟩;simp only at hI;have hsM:=hI.sk;have hlM:=hsM.len;have hi:=hI.at';have hxM:=gMm hi;have hil:=(gSs hi).1;have hwl:=hI.wl;refine Xq<|Xq<|Xg 10<|Bl 5 5 [(⟨t,0,none⟩,.slice (sA wb wo) M.length wc)] (hasC (ba 1) Zaa)<|Bs 4 (Zav (Xi 159 (.tmp 26) (.tmp 27) wb wo M.length wc i 7 163 (i:Int) 28 underlying159))<|Cm [(0,vp t),(2,vi 0),(3,.bool false),(4,vi i),(5,.slice A wy.length cp),(32,.bool (!x.thr))] [(⟨wb,wo+i*7+4,none⟩,.bool x.thr)] (hasC (Zac (E:=rnE) (xs:=M) 2 rfl (x:=x) hi (j:=4) rfl) Zaa) ?_;cases hxt:x.thr with
  | true=>
   have hfin:=hI.leaf hxt;have hrn:Zcd L=((x.id,true),(Zjo L wy).foldl Za6 M):=by rw[Zcd,hg0];simp only[hrd,if_true,hfin]
   refine cF<|Xx 0<|Zao<|Zao<|Zax<|Xq<|Xq<|Xg 1<|Be<|Xb 4 (Xp [(0,vp t),(2,vi 0),(3,.bool false),(4,vi i),(5,.slice A wy.length cp),(9,vi 0)] ?_);refine ZbV (fun(q:List Nr×Nat)=> [(0,vp t),(2,vi 0),(3,.bool false),(4,vi i),(5,.slice A wy.length cp),(9,vi (q.2:Int))]) (fun(q:List Nr×Nat)=>(row (kE .i64) 3 (.slice A wy.length cp) wy::blk t 161 [.slice (sA wb wo) q.1.length wc]::row rnE 163 (.slice (sA wb wo) q.1.length wc) q.1::H)) (fun k (q:List Nr×Nat)=>k+q.2=wy.length∧SK q.1∧DN rk (rk x.id) q.1∧q.1.map (·.id)=L.map (·.id)∧((Zjo L wy).drop q.2).foldl Za6 q.1=(Zjo L wy).foldl Za6 M) wy.length (M,0) Kr ⟨by simp,hI.sk,hI.dn,hI.ids,rfl⟩ ?_;rintro k2 ⟨M2,u⟩ ⟨hku,hs2,hd2,hids2,hfold⟩;simp only at hku hs2 hd2 hids2 hfold;have hl2:M2.length=M.length:=by have:=congrArg List.length (hids2.trans hI.ids.symm);simpa using this
   refine Xq<|Xq<|Xg 4<|Ce [(0,vp t),(2,vi 0),(3,.bool false),(4,vi i),(5,.slice A wy.length cp),(9,vi u),(136,.bool (decide ((u:Int)< (wy.length:Int))))]<|Xc (decide ((u:Int)< (wy.length:Int))) (fun h2=>?_) (fun h2=>?_)
   ·have hu:u<wy.length:=by have:=of_decide_eq_true h2;omega
    obtain⟨a0,ha0⟩:∃a0,wy[u]? =some a0:=⟨_,gEe hu⟩
    obtain⟨a,rfl,hal⟩:=hI.way a0 (gMm ha0);obtain⟨g,hg⟩:∃g,M2[a]? =some g:=⟨_,gEe (by omega)⟩
    have hgM:=gMm hg;have hgn:=hd2.now g hgM;have hdr:(Zjo L wy).drop u=g.id::(Zjo L wy).drop (u+1):=by rw[List.drop_eq_getElem_cons (by simp[Zjo];exact hu)];congr 1;simp only[Zjo,List.getElem_map];rw[(gSs ha0).2];exact ZpK hids2 hg
    refine PT.know (KR.isSome (s:=⟨A,cp,wy⟩) (Zad 0 rfl) (List.ne_nil_of_length_pos (by show 0<wy.length;omega))) ?_;rintro⟨yb,yo,hA3⟩;dsimp only at hA3;subst hA3;refine Xk<|Xq<|Xb 5<|Xq<|Xy0 0 [] 12<|At' [0,1,2,3,4,5] [(⟨t,0,none⟩,.slice (sA wb wo) M2.length wc)] (hasC (ba 1) Zaa)<|Xu 6 (Xi 42 (.tmp 143) (.tmp 144) yb yo wy.length cp u 1 3 (u:Int) 145 underlying42)<|At' [7] [(⟨yb,yo+u*1,none⟩,vi a)] (hasC (Zac (E:=kE .i64) (xs:=wy) 0 rfl (x:=(a:Int)) ha0 (j:=0) rfl) Zaa)<|Xu 8 (Xi 159 (.tmp 142) (.tmp 146) wb wo M2.length wc a 7 163 (a:Int) 147 underlying159)<|At' [9,10,11] [(⟨wb,wo+a*7+6,none⟩,vi g.now)] (hasC (Zac (E:=rnE) (xs:=M2) 2 rfl (x:=g) hg (j:=6) rfl) Zaa)<|Xd<|Xq<|Xg 2<|Be<|Xc (decide (g.now>16777216)) (fun h3=>?_) (fun h3=>?_)
    ·have h3:=of_decide_eq_true h3;have hgg:shG g.id g.now g=g:=Zjt (Ne.symm (hs2.ne_par hgM));refine Xq<|Xq<|Xg 1<|Be<|Xb 6 (Xp [(0,vp t),(2,vi 0),(3,.bool false),(4,vi i),(5,.slice (sA yb yo) wy.length cp),(9,vi u),(10,vi g.now),(11,vi 0)] ?_);refine ZbV (fun(j:Nat)=> [(0,vp t),(2,vi 0),(3,.bool false),(4,vi i),(5,.slice (sA yb yo) wy.length cp),(9,vi u),(10,vi g.now),(11,vi j)]) (fun(j:Nat)=>(row (kE .i64) 3 (.slice (sA yb yo) wy.length cp) wy::blk t 161 [.slice (sA wb wo) ((ZcV g.id g.now j M2).length) wc]::row rnE 163 (.slice (sA wb wo) (ZcV g.id g.now j M2).length wc) (ZcV g.id g.now j M2)::H)) (fun k (j:Nat)=>k+j=M2.length) M2.length 0 Kr (by simp) ?_;rintro k3 j hkj;have hlj:=Zjr g.id g.now j M2;have hga:(ZcV g.id g.now j M2)[a]? =some g:=by rw[ZlR hg];split<;>simp[hgg]
     have hlm2:=hs2.len;refine Xq<|Xq<|Xg 7<|Bm [(⟨t,0,none⟩,.slice (sA wb wo) ((ZcV g.id g.now j M2).length) wc)] (hasC (ba 1) Zaa)<|Xc (decide ((j:Int)< ((ZcV g.id g.now j M2).length:Int))) (fun h4=>?_) (fun h4=>?_)
     ·have hj:j<M2.length:=by have:=of_decide_eq_true h4;rw[hlj]at this;omega
      obtain⟨z,hz⟩:∃z,M2[j]? =some z:=⟨_,gEe hj⟩
      have hzj:(ZcV g.id g.now j M2)[j]? =some z:=by rw[ZlR hz,if_neg (by omega)]
      have hzp:=hd2.pass z (gMm hz);refine Xk<|Xq<|Xb 7<|Xq<|Xy0 0 [] 22<|At' [0,1,2,3,4,9,10,11,12,13,14] [(⟨t,0,none⟩,.slice (sA wb wo) ((ZcV g.id g.now j M2).length) wc),(⟨t,0,none⟩,.slice (sA wb wo) ((ZcV g.id g.now j M2).length) wc)] (hasC (ba 1) (hasC (ba 1) Zaa))<|Xu 5 (Xi 159 (.tmp 164) (.tmp 165) wb wo ((ZcV g.id g.now j M2).length) wc j 7 163 (j:Int) 166 underlying159)<|At' [6,7,8] [(⟨wb,wo+j*7+1,none⟩,vi z.par)] (hasC (Zac (E:=rnE) (xs:=ZcV g.id g.now j M2) 2 rfl (x:=z) hzj (j:=1) rfl) Zaa)<|Xu 15 (Xi 42 (.tmp 174) (.tmp 175) yb yo wy.length cp u 1 3 (u:Int) 176 underlying42)<|At' [16] [(⟨yb,yo+u*1,none⟩,vi a)] (hasC (Zac (E:=kE .i64) (xs:=wy) 0 rfl (x:=(a:Int)) ha0 (j:=0) rfl) Zaa)<|Xu 17 (Xi 159 (.tmp 173) (.tmp 177) wb wo ((ZcV g.id g.now j M2).length) wc a 7 163 (a:Int) 178 underlying159)<|At' [18,19,20,21] [(⟨wb,wo+a*7,none⟩,vi g.id)] (hasC (Zac (E:=rnE) (xs:=ZcV g.id g.now j M2) 2 rfl (x:=g) hga (j:=0) rfl) Zaa)<|Xd (Xc (z.par==g.id) (fun h5=>?_) (fun h5=>?_))
      ·refine Xy0 0 [20] 21<|At' [0,1,2,3,4,5,6,7,8,9,14] [(⟨t,0,none⟩,.slice (sA wb wo) ((ZcV g.id g.now j M2).length) wc),(⟨t,0,none⟩,.slice (sA wb wo) ((ZcV g.id g.now j M2).length) wc)] (hasC (ba 1) (hasC (ba 1) Zaa))<|Xu 10 (Xi 159 (.tmp 191) (.tmp 192) wb wo ((ZcV g.id g.now j M2).length) wc j 7 163 (j:Int) 193 underlying159)<|At' [11,12,13,15,16] [(⟨wb,wo+j*7+3,none⟩,vi z.pass)] (hasC (Zac (E:=rnE) (xs:=ZcV g.id g.now j M2) 2 rfl (x:=z) hzj (j:=3) rfl) Zaa)<|Xu 17 (Xi 159 (.tmp 186) (.tmp 187) wb wo ((ZcV g.id g.now j M2).length) wc j 7 163 (j:Int) 200 underlying159)<|Xt [18,19] [(0,vp t),(2,vi 0),(3,.bool false),(4,vi i),(5,.slice (sA yb yo) wy.length cp),(9,vi u),(10,vi g.now),(11,vi j),(199,vi (mxI 0 (IntKind.i64.wrap (z.pass-g.now)))),(202,.pointer (sA wb (wo+j*7+3)))] [] Zaa ?_;rw[show IntKind.i64.wrap (z.pass-g.now)=(z.pass-g.now)by rw[w64 (by omega) (by omega)]];refine DT.pick 2 rfl<|Yo 20 (ZdU (E:=rnE) (J:=j) (j:=3) z (shG g.id g.now z) (.int .i64 (mxI 0 (z.pass-g.now))) ⟨wb,wo+j*7+3,none⟩ (fun _=>Kr) (by first|rfl|simp) (hzj) (by rw[shG,if_pos h5];rfl) (by decide))<|Xd ?_;rw[show(ZcV g.id g.now j M2).length=(ZcV g.id g.now (j+1) M2).length by rw[hlj,Zjr]];rw[show((ZcV g.id g.now j M2).set j (shG g.id g.now z))=(ZcV g.id g.now (j+1) M2)by rw[ZgS hz]];refine Xg 3 (Ce [(0,vp t),(2,vi 0),(3,.bool false),(4,vi i),(5,.slice (sA yb yo) wy.length cp),(9,vi u),(10,vi g.now),(11,vi (IntKind.i64.wrap ((j:Int)+1)))] ?_);rw[show IntKind.i64.wrap ((j:Int)+1)=((j:Int)+1)by rw[w64 (by omega) (by omega)]];refine PT.pick 0 rfl<|PT.pick 2 rfl<|PT.pick 2 rfl<|Xp [(0,vp t),(2,vi 0),(3,.bool false),(4,vi i),(5,.slice (sA yb yo) wy.length cp),(9,vi u),(10,vi g.now),(11,vi ((j:Int)+1))] ?_;exact Za3 (k3-1) (j+1) rfl rfl (by omega) (by omega)
      ·have hse:ZcV g.id g.now j M2=ZcV g.id g.now (j+1) M2:=by rw[ZgS hz,Zjt (by simpa using h5),ZnV hzj]
       refine Xk (Xg 3 (Ce [(0,vp t),(2,vi 0),(3,.bool false),(4,vi i),(5,.slice (sA yb yo) wy.length cp),(9,vi u),(10,vi g.now),(11,vi (IntKind.i64.wrap ((j:Int)+1)))] ?_));rw[show IntKind.i64.wrap ((j:Int)+1)=((j:Int)+1)by rw[w64 (by omega) (by omega)]];rw[hse];refine Xp [(0,vp t),(2,vi 0),(3,.bool false),(4,vi i),(5,.slice (sA yb yo) wy.length cp),(9,vi u),(10,vi g.now),(11,vi ((j:Int)+1))] ?_;exact Za3 (k3-1) (j+1) rfl rfl (by omega) (by omega)
     ·have hj:j=M2.length:=by have:=of_decide_eq_false h4;rw[hlj]at this;omega
      have hmm:ZcV g.id g.now j M2=M2.map (shG g.id g.now):=by rw[hj,ZnS]
      have hM3n:((M2.map (shG g.id g.now)).map (·.id)).Nodup:=(hs2.map _ (ZbD _ _)).nd;have hga3:(M2.map (shG g.id g.now))[a]? =some g:=by rw[List.getElem?_map,hg,Option.map_some,hgg]
      refine Xx 6<|Zao<|Zao<|Zax<|Xy0 0 [10] 11<|At' [0,1,2,3,4,5] [(⟨t,0,none⟩,.slice (sA wb wo) ((ZcV g.id g.now j M2).length) wc)] (hasC (ba 1) Zaa)<|Xu 6 (Xi 42 (.tmp 207) (.tmp 208) yb yo wy.length cp u 1 3 (u:Int) 209 underlying42)<|At' [7] [(⟨yb,yo+u*1,none⟩,vi a)] (hasC (Zac (E:=kE .i64) (xs:=wy) 0 rfl (x:=(a:Int)) ha0 (j:=0) rfl) Zaa)<|Xu 8 (Xi 159 (.tmp 206) (.tmp 210) wb wo ((ZcV g.id g.now j M2).length) wc a 7 163 (a:Int) 211 underlying159)<|Xt [9] [(0,vp t),(2,vi 0),(3,.bool false),(4,vi i),(5,.slice (sA yb yo) wy.length cp),(9,vi u),(212,.pointer (sA wb (wo+a*7+6)))] [] Zaa<|DT.pick 2 rfl<|Yo 10 (ZdU (E:=rnE) (J:=a) (j:=6) g (nwF 0 g) (.int .i64 0) ⟨wb,wo+a*7+6,none⟩ (fun _=>Kr) (by first|rfl|simp) (hga) (rfl) (by decide))<|Xd ?_;have hsl:Za6 M2 g.id=upN (M2.map (shG g.id g.now)) g.id (nwF 0):=Zc8 hs2.nd hgM h3;rw[show(ZcV g.id g.now j M2).length=(Za6 M2 g.id).length by rw[hlj,hsl];simp[upN]];rw[show((ZcV g.id g.now j M2).set a (nwF 0 g))=(Za6 M2 g.id)by rw[hsl,hmm];exact Zev hM3n hga3 (nwF 0)];refine Xg 3 (Ce [(0,vp t),(2,vi 0),(3,.bool false),(4,vi i),(5,.slice (sA yb yo) wy.length cp),(9,vi (IntKind.i64.wrap ((u:Int)+1)))] ?_);rw[show IntKind.i64.wrap ((u:Int)+1)=((u:Int)+1)by rw[w64 (by omega) (by omega)]];refine PT.pick 0 rfl<|PT.pick 2 rfl<|PT.pick 2 rfl<|Xp [(0,vp t),(2,vi 0),(3,.bool false),(4,vi i),(5,.slice (sA yb yo) wy.length cp),(9,vi ((u:Int)+1))] ?_;exact Za3 (k2-1) (Za6 M2 g.id,u+1) rfl rfl (by omega) ⟨by simp only;omega,hs2.shift hgM,hd2.shift hs2 hgM,by simp only;rw[hsl,Zdu (Zcx 0).id,←hids2,List.map_map];exact List.map_congr_left fun v _=>(ZbD _ _).id v,by simp only;rw[←hfold,hdr,List.foldl_cons]⟩
    ·have h3:=of_decide_eq_false h3;refine Xk (Xg 3 (Ce [(0,vp t),(2,vi 0),(3,.bool false),(4,vi i),(5,.slice (sA yb yo) wy.length cp),(9,vi (IntKind.i64.wrap ((u:Int)+1)))] ?_));rw[show IntKind.i64.wrap ((u:Int)+1)=((u:Int)+1)by rw[w64 (by omega) (by omega)]];refine Xp [(0,vp t),(2,vi 0),(3,.bool false),(4,vi i),(5,.slice (sA yb yo) wy.length cp),(9,vi ((u:Int)+1))] ?_;exact Za3 (k2-1) (M2,u+1) rfl rfl (by omega) ⟨by simp only;omega,hs2,hd2,hids2,by simp only;rw[←hfold,hdr,List.foldl_cons,Zc7 hs2.nd hgM h3]⟩
   ·have hu:u=wy.length:=by have:=of_decide_eq_false h2;omega
    have hM2:M2=(Zjo L wy).foldl Za6 M:=by rw[←hfold,List.drop_of_length_le (by simp[Zjo];omega)];rfl
    obtain⟨x2,hx2⟩:∃x2,M2[i]? =some x2:=⟨_,gEe (by omega)⟩
    have hx2i:x2.id=x.id:=by
     have h1:=congrArg (fun l:List Int=>l[i]?) (hids2.trans hI.ids.symm);simp only[List.getElem?_map,hx2,hi,Option.map_some,Option.some.injEq]at h1;exact h1
    refine Xx 4<|Zao<|Zao<|Zax<|Xq<|Xg 11<|Bl 6 5 [(⟨t,0,none⟩,.slice (sA wb wo) M2.length wc)] (hasC (ba 1) Zaa)<|Bs 5 (Zav (Xi 159 (.tmp 216) (.tmp 217) wb wo M2.length wc i 7 163 (i:Int) 218 underlying159))<|Bm [(⟨wb,wo+i*7,none⟩,vi x2.id)] (hasC (Zac (E:=rnE) (xs:=M2) 2 rfl (x:=x2) hx2 (j:=0) rfl) Zaa)<|Xv<|PT.drop<|Y0 (.tuple #[vi x2.id,.bool true]) (fun w hs=>?_);exact⟨(),by rw[hrn,hx2i],by rw[hrn];rw[←hM2];exact Sat.closeRt (List.ne_nil_of_mem (gMm hx2)) hs⟩
  | false=>
   have hkx:KX M x.id:=(hI.rd x hxM hxt).1 hI.rdy;have hsrM:(M.map (·.id)).Pairwise (· < ·):=by rw[hI.ids];exact hsr
   refine cT<|Xk<|Xb 1<|Xq<|Xg 1<|Be<|Xq<|Xq<|Xg 1<|Be<|Xb 2 (Xp [(0,vp t),(2,vi 0),(3,.bool false),(4,vi i),(5,.slice A wy.length cp),(6,vi (-1)),(7,vi 0)] (Xl0 (fun(q:Int×Nat)=> [(0,vp t),(2,vi 0),(3,.bool false),(4,vi i),(5,.slice A wy.length cp),(6,vi q.1),(7,vi (q.2:Int))]) (fun k (q:Int×Nat)=>k+q.2=M.length∧Best M x.id q.2 q.1) M.length (-1,0) Kr ⟨by simp,Best.start M x.id⟩ ?_));rintro k2 ⟨bs,u⟩ ⟨hku,hB⟩;simp only at hku hB;refine Xq<|Xq<|Xg 7<|Cm [(0,vp t),(2,vi 0),(3,.bool false),(4,vi i),(5,.slice A wy.length cp),(6,vi bs),(7,vi u),(39,.bool (decide ((u:Int)< (M.length:Int))))] [(⟨t,0,none⟩,.slice (sA wb wo) M.length wc)] (hasC (ba 1) Zaa)<|Xc (decide ((u:Int)< (M.length:Int))) (fun h2=>?_) (fun h2=>?_)
   ·have hu:u<M.length:=by have:=of_decide_eq_true h2;omega
    obtain⟨z,hz⟩:∃z,M[u]? =some z:=⟨_,gEe hu⟩
    have hB2:=hB;rcases hB2 with⟨hb1,_⟩|⟨m,y,hb1,hmu,hym,_⟩
    ·subst hb1;refine Xk<|Xq<|Xb 3<|Xq<|Xg 10<|Bl 5 5 [(⟨t,0,none⟩,.slice (sA wb wo) M.length wc)] (hasC (ba 1) Zaa)<|Bs 4 (Zav (Xi 159 (.tmp 45) (.tmp 46) wb wo M.length wc u 7 163 (u:Int) 47 underlying159))<|Cl 2 2 [(0,vp t),(2,vi 0),(3,.bool false),(4,vi i),(5,.slice A wy.length cp),(6,vi (-1)),(7,vi u),(49,.agg #[vi z.id,vi z.par,vi z.wt,vi z.pass,.bool z.thr,.bool z.rdy])] [(⟨wb,wo+u*7,none⟩,vi z.id),(⟨wb,wo+u*7+1,none⟩,vi z.par),(⟨wb,wo+u*7+2,none⟩,vi z.wt),(⟨wb,wo+u*7+3,none⟩,vi z.pass),(⟨wb,wo+u*7+4,none⟩,.bool z.thr),(⟨wb,wo+u*7+5,none⟩,.bool z.rdy)] (hasC (Zac (E:=rnE) (xs:=M) 2 rfl (x:=z) hz (j:=0) rfl) (hasC (Zac (E:=rnE) (xs:=M) 2 rfl (x:=z) hz (j:=1) rfl) (hasC (Zac (E:=rnE) (xs:=M) 2 rfl (x:=z) hz (j:=2) rfl) (hasC (Zac (E:=rnE) (xs:=M) 2 rfl (x:=z) hz (j:=3) rfl) (hasC (Zac (E:=rnE) (xs:=M) 2 rfl (x:=z) hz (j:=4) rfl) (hasC (Zac (E:=rnE) (xs:=M) 2 rfl (x:=z) hz (j:=5) rfl) Zaa))))))<|Bx 1 (Xn 147 [vi 0,vi 0,vi 0,vi 0,.bool false,.bool false] (some 8) (fun b=>vp b)) fun b2=>Bs 0 (Xz [(0,vi z.id),(1,vi z.par),(2,vi z.wt),(3,vi z.pass),(4,.bool z.thr),(5,.bool z.rdy)])<|endR<|Xq<|Xy0 0 [] 34<|Xt [0,1,2,3,4,5,6] [(8,vp b2),(0,vp t),(2,vi 0),(3,.bool false),(4,vi i),(5,.slice A wy.length cp),(6,vi (-1)),(7,vi u),(51,vi z.par),(55,.slice (sA wb wo) M.length wc),(56,vi i)] [(⟨b2,1,none⟩,vi z.par),(⟨t,0,none⟩,.slice (sA wb wo) M.length wc)] (hasC (ba 0) (hasC (ba 2) Zaa))<|Xu 7 (Xi 159 (.tmp 55) (.tmp 56) wb wo M.length wc i 7 163 (i:Int) 57 underlying159)<|Xt [8,9,10,11,12] [(8,vp b2),(0,vp t),(2,vi 0),(3,.bool false),(4,vi i),(5,.slice A wy.length cp),(6,vi (-1)),(7,vi u),(62,.bool (z.par==x.id))] [(⟨wb,wo+i*7,none⟩,vi x.id)] (hasC (up (Zac (E:=rnE) (xs:=M) 2 rfl (x:=x) hi (j:=0) rfl)) Zaa) ?_
     cases c1:(z.par==x.id)with
     | true=>
      refine Xt [13,14,15,16] [(8,vp b2),(0,vp t),(2,vi 0),(3,.bool false),(4,vi i),(5,.slice A wy.length cp),(6,vi (-1)),(7,vi u),(66,.bool z.rdy)] [(⟨b2,5,none⟩,.bool z.rdy)] (hasC (ba 0) Zaa) ?_;cases c2:(z.rdy)with
      |true=>
       refine Xt [17,18,19,20,21,22,23,24,25,26,27,28,29,30,31,32,33] [(0,vp t),(2,vi 0),(3,.bool false),(4,vi i),(5,.slice A wy.length cp),(6,vi (-1)),(7,vi u),(83,.bool true)] [] Zaa<|Xd<|cT<|Xg 2<|Ce [(0,vp t),(2,vi 0),(3,.bool false),(4,vi i),(5,.slice A wy.length cp),(6,vi u),(7,vi u)]<|Xg 3 (Ce [(0,vp t),(2,vi 0),(3,.bool false),(4,vi i),(5,.slice A wy.length cp),(6,vi u),(7,vi (IntKind.i64.wrap ((u:Int)+1)))] ?_);rw[show IntKind.i64.wrap ((u:Int)+1)=((u:Int)+1)by rw[w64 (by omega) (by omega)]];refine PT.drop<|Xp [(0,vp t),(2,vi 0),(3,.bool false),(4,vi i),(5,.slice A wy.length cp),(6,vi u),(7,vi ((u:Int)+1))] ?_;exact Za3 (k2-1) ((u:Int),u+1) rfl rfl (by omega) ⟨by simp only;omega,hB.new hz (by simpa using c1) c2 (fun m y h=>by omega)⟩
      |false=>
       refine Xt [17,18,19,20,21,22,23,24,25,26,27,28,29,30,31,32,33] [(0,vp t),(2,vi 0),(3,.bool false),(4,vi i),(5,.slice A wy.length cp),(6,vi (-1)),(7,vi u),(83,.bool false)] [] Zaa<|Xd<|cF<|Xk (Xg 3 (Ce [(0,vp t),(2,vi 0),(3,.bool false),(4,vi i),(5,.slice A wy.length cp),(6,vi (-1)),(7,vi (IntKind.i64.wrap ((u:Int)+1)))] ?_));rw[show IntKind.i64.wrap ((u:Int)+1)=((u:Int)+1)by rw[w64 (by omega) (by omega)]];refine PT.drop<|Xp [(0,vp t),(2,vi 0),(3,.bool false),(4,vi i),(5,.slice A wy.length cp),(6,vi (-1)),(7,vi ((u:Int)+1))] ?_;exact Za3 (k2-1) (-1,u+1) rfl rfl (by omega) ⟨by simp only;omega,hB.no hz (by simp[c2])⟩
     |false=>
      refine Xt [13,14,15,16,17,18,19,20,21,22,23,24,25,26,27,28,29,30,31,32,33] [(0,vp t),(2,vi 0),(3,.bool false),(4,vi i),(5,.slice A wy.length cp),(6,vi (-1)),(7,vi u),(83,.bool false)] [] Zaa<|Xd<|cF<|Xk (Xg 3 (Ce [(0,vp t),(2,vi 0),(3,.bool false),(4,vi i),(5,.slice A wy.length cp),(6,vi (-1)),(7,vi (IntKind.i64.wrap ((u:Int)+1)))] ?_));rw[show IntKind.i64.wrap ((u:Int)+1)=((u:Int)+1)by rw[w64 (by omega) (by omega)]];refine PT.drop<|Xp [(0,vp t),(2,vi 0),(3,.bool false),(4,vi i),(5,.slice A wy.length cp),(6,vi (-1)),(7,vi ((u:Int)+1))] ?_;exact Za3 (k2-1) (-1,u+1) rfl rfl (by omega) ⟨by simp only;omega,hB.no hz (by simp only[c1,Bool.false_and])⟩
    ·subst hb1;have hml:=(gSs hym).1;refine Xk<|Xq<|Xb 3<|Xq<|Xg 10<|Cl 5 5 [(0,vp t),(2,vi 0),(3,.bool false),(4,vi i),(5,.slice A wy.length cp),(6,vi m),(7,vi u),(45,.slice (sA wb wo) M.length wc),(46,vi u)] [(⟨t,0,none⟩,.slice (sA wb wo) M.length wc)] (hasC (ba 1) Zaa)<|Bs 4 (Zav (Xi 159 (.tmp 45) (.tmp 46) wb wo M.length wc u 7 163 (u:Int) 47 underlying159))<|Cl 2 2 [(0,vp t),(2,vi 0),(3,.bool false),(4,vi i),(5,.slice A wy.length cp),(6,vi m),(7,vi u),(49,.agg #[vi z.id,vi z.par,vi z.wt,vi z.pass,.bool z.thr,.bool z.rdy])] [(⟨wb,wo+u*7,none⟩,vi z.id),(⟨wb,wo+u*7+1,none⟩,vi z.par),(⟨wb,wo+u*7+2,none⟩,vi z.wt),(⟨wb,wo+u*7+3,none⟩,vi z.pass),(⟨wb,wo+u*7+4,none⟩,.bool z.thr),(⟨wb,wo+u*7+5,none⟩,.bool z.rdy)] (hasC (Zac (E:=rnE) (xs:=M) 2 rfl (x:=z) hz (j:=0) rfl) (hasC (Zac (E:=rnE) (xs:=M) 2 rfl (x:=z) hz (j:=1) rfl) (hasC (Zac (E:=rnE) (xs:=M) 2 rfl (x:=z) hz (j:=2) rfl) (hasC (Zac (E:=rnE) (xs:=M) 2 rfl (x:=z) hz (j:=3) rfl) (hasC (Zac (E:=rnE) (xs:=M) 2 rfl (x:=z) hz (j:=4) rfl) (hasC (Zac (E:=rnE) (xs:=M) 2 rfl (x:=z) hz (j:=5) rfl) Zaa))))))<|Bx 1 (Xn 147 [vi 0,vi 0,vi 0,vi 0,.bool false,.bool false] (some 8) (fun b=>vp b)) fun b2=>Bs 0 (Xz [(0,vi z.id),(1,vi z.par),(2,vi z.wt),(3,vi z.pass),(4,.bool z.thr),(5,.bool z.rdy)])<|endR<|Xq<|Xy0 0 [] 34<|Xt [0,1,2,3,4,5,6] [(8,vp b2),(0,vp t),(2,vi 0),(3,.bool false),(4,vi i),(5,.slice A wy.length cp),(6,vi m),(7,vi u),(51,vi z.par),(55,.slice (sA wb wo) M.length wc),(56,vi i)] [(⟨b2,1,none⟩,vi z.par),(⟨t,0,none⟩,.slice (sA wb wo) M.length wc)] (hasC (ba 0) (hasC (ba 2) Zaa))<|Xu 7 (Xi 159 (.tmp 55) (.tmp 56) wb wo M.length wc i 7 163 (i:Int) 57 underlying159)<|Xt [8,9,10,11,12] [(8,vp b2),(0,vp t),(2,vi 0),(3,.bool false),(4,vi i),(5,.slice A wy.length cp),(6,vi m),(7,vi u),(62,.bool (z.par==x.id))] [(⟨wb,wo+i*7,none⟩,vi x.id)] (hasC (up (Zac (E:=rnE) (xs:=M) 2 rfl (x:=x) hi (j:=0) rfl)) Zaa) ?_
     cases c1:(z.par==x.id)with
     | true=>
      refine Xt [13,14,15,16] [(8,vp b2),(0,vp t),(2,vi 0),(3,.bool false),(4,vi i),(5,.slice A wy.length cp),(6,vi m),(7,vi u),(66,.bool z.rdy)] [(⟨b2,5,none⟩,.bool z.rdy)] (hasC (ba 0) Zaa) ?_;cases c2:(z.rdy)with
      | true=>
       refine Xt [17,18,19] [(8,vp b2),(0,vp t),(2,vi 0),(3,.bool false),(4,vi i),(5,.slice A wy.length cp),(6,vi m),(7,vi u),(66,.bool true),(69,.bool (decide ((m:Int)<0)))] [] Zaa ?_;rw[show(decide ((m:Int)<0))=false from by first|exact decide_eq_false (by omega)|(simp;done)|(simp;omega)];refine Xt [20,21,22,23,24,25,26] [(0,vp t),(2,vi 0),(3,.bool false),(4,vi i),(5,.slice A wy.length cp),(6,vi m),(7,vi u),(66,.bool true),(69,.bool false),(71,vi z.pass),(75,.slice (sA wb wo) M.length wc),(76,vi m)] [(⟨b2,3,none⟩,vi z.pass),(⟨t,0,none⟩,.slice (sA wb wo) M.length wc)] (hasC (ba 0) (hasC (ba 2) Zaa))<|Xu 27 (Xi 159 (.tmp 75) (.tmp 76) wb wo M.length wc m 7 163 (m:Int) 77 underlying159)<|Xt [28,29,30,31,32,33] [(0,vp t),(2,vi 0),(3,.bool false),(4,vi i),(5,.slice A wy.length cp),(6,vi m),(7,vi u),(83,.bool (decide (z.pass<y.pass)))] [(⟨wb,wo+m*7+3,none⟩,vi y.pass)] (hasC (up (Zac (E:=rnE) (xs:=M) 2 rfl (x:=y) hym (j:=3) rfl)) Zaa)<|Xd (Xc (decide (z.pass<y.pass)) (fun c3=>?_) (fun c3=>?_))
       ·have c3:=of_decide_eq_true c3;refine Xg 2<|Ce [(0,vp t),(2,vi 0),(3,.bool false),(4,vi i),(5,.slice A wy.length cp),(6,vi u),(7,vi u)]<|Xg 3 (Ce [(0,vp t),(2,vi 0),(3,.bool false),(4,vi i),(5,.slice A wy.length cp),(6,vi u),(7,vi (IntKind.i64.wrap ((u:Int)+1)))] ?_);rw[show IntKind.i64.wrap ((u:Int)+1)=((u:Int)+1)by rw[w64 (by omega) (by omega)]];refine PT.drop<|Xp [(0,vp t),(2,vi 0),(3,.bool false),(4,vi i),(5,.slice A wy.length cp),(6,vi u),(7,vi ((u:Int)+1))] ?_;exact Za3 (k2-1) ((u:Int),u+1) rfl rfl (by omega) ⟨by simp only;omega,hB.new hz (by simpa using c1) c2 (fun m' y' e h=>by have e2:m=m':=(by omega);rw[←e2]at h;exact(Option.some.inj (hym.symm.trans h))▸c3)⟩
       ·have c3:=of_decide_eq_false c3;refine Xk (Xg 3 (Ce [(0,vp t),(2,vi 0),(3,.bool false),(4,vi i),(5,.slice A wy.length cp),(6,vi m),(7,vi (IntKind.i64.wrap ((u:Int)+1)))] ?_));rw[show IntKind.i64.wrap ((u:Int)+1)=((u:Int)+1)by rw[w64 (by omega) (by omega)]];refine PT.drop<|Xp [(0,vp t),(2,vi 0),(3,.bool false),(4,vi i),(5,.slice A wy.length cp),(6,vi m),(7,vi ((u:Int)+1))] ?_;exact Za3 (k2-1) ((m:Int),u+1) rfl rfl (by omega) ⟨by simp only;omega,hB.keep hsrM hym hz c3⟩
      |false=>
       refine Xt [17,18,19,20,21,22,23,24,25,26,27,28,29,30,31,32,33] [(0,vp t),(2,vi 0),(3,.bool false),(4,vi i),(5,.slice A wy.length cp),(6,vi m),(7,vi u),(83,.bool false)] [] Zaa<|Xd<|cF<|Xk (Xg 3 (Ce [(0,vp t),(2,vi 0),(3,.bool false),(4,vi i),(5,.slice A wy.length cp),(6,vi m),(7,vi (IntKind.i64.wrap ((u:Int)+1)))] ?_));rw[show IntKind.i64.wrap ((u:Int)+1)=((u:Int)+1)by rw[w64 (by omega) (by omega)]];refine PT.drop<|Xp [(0,vp t),(2,vi 0),(3,.bool false),(4,vi i),(5,.slice A wy.length cp),(6,vi m),(7,vi ((u:Int)+1))] ?_;exact Za3 (k2-1) ((m:Int),u+1) rfl rfl (by omega) ⟨by simp only;omega,hB.no hz (by simp[c2])⟩
     |false=>
      refine Xt [13,14,15,16,17,18,19,20,21,22,23,24,25,26,27,28,29,30,31,32,33] [(0,vp t),(2,vi 0),(3,.bool false),(4,vi i),(5,.slice A wy.length cp),(6,vi m),(7,vi u),(83,.bool false)] [] Zaa<|Xd<|cF<|Xk (Xg 3 (Ce [(0,vp t),(2,vi 0),(3,.bool false),(4,vi i),(5,.slice A wy.length cp),(6,vi m),(7,vi (IntKind.i64.wrap ((u:Int)+1)))] ?_));rw[show IntKind.i64.wrap ((u:Int)+1)=((u:Int)+1)by rw[w64 (by omega) (by omega)]];refine PT.drop<|Xp [(0,vp t),(2,vi 0),(3,.bool false),(4,vi i),(5,.slice A wy.length cp),(6,vi m),(7,vi ((u:Int)+1))] ?_;exact Za3 (k2-1) ((m:Int),u+1) rfl rfl (by omega) ⟨by simp only;omega,hB.no hz (by simp only[c1,Bool.false_and])⟩
   ·have hu:u=M.length:=by have:=of_decide_eq_false h2;omega
    rw[hu]at hB;obtain⟨m,y,rfl,hm,hyp,hyr,hly⟩:=hB.done hsM.nd hkx;have hyM:=gMm hm;have hml:=(gSs hm).1;have hstp:=hI.dn.step hsM hI.rkk hxM hyM hyp hyr (least_some hly).2;have hyw:=hI.dn.wt y hyM;have hyp0:=hI.dn.pass y hyM;obtain⟨hIn,hyx,hff⟩:=hI.next hm hyp hyr hly;have hm1:=ZnL hsM.nd hi hm hyx (nwF y.pass);have hl1:(upN M x.id (nwF y.pass)).length=M.length:=by simp[upN]
    refine Xx 2<|Zao<|Zao<|Zax<|Xq<|Xy0 0 [16] 17<|Xt [0,1,2,3,4,5,6,7,8,9] [(0,vp t),(2,vi 0),(3,.bool false),(4,vi i),(5,.slice A wy.length cp),(6,vi m),(88,.slice (sA wb wo) M.length wc),(89,vi i),(93,.slice (sA wb wo) M.length wc),(94,vi m)] [(⟨t,0,none⟩,.slice (sA wb wo) M.length wc),(⟨t,0,none⟩,.slice (sA wb wo) M.length wc)] (hasC (ba 1) (hasC (ba 1) Zaa))<|Xu 10 (Xi 159 (.tmp 93) (.tmp 94) wb wo M.length wc m 7 163 (m:Int) 95 underlying159)<|Xt [11,12,13] [(0,vp t),(2,vi 0),(3,.bool false),(4,vi i),(5,.slice A wy.length cp),(6,vi m),(88,.slice (sA wb wo) M.length wc),(89,vi i),(98,vi y.pass)] [(⟨wb,wo+m*7+3,none⟩,vi y.pass)] (hasC (Zac (E:=rnE) (xs:=M) 2 rfl (x:=y) hm (j:=3) rfl) Zaa)<|Xu 14 (Xi 159 (.tmp 88) (.tmp 89) wb wo M.length wc i 7 163 (i:Int) 99 underlying159)<|Xt [15] [(0,vp t),(2,vi 0),(3,.bool false),(4,vi i),(5,.slice A wy.length cp),(6,vi m),(98,vi y.pass),(100,.pointer (sA wb (wo+i*7+6)))] [] Zaa<|DT.pick 2 rfl<|Yo 16 (ZdU (E:=rnE) (J:=i) (j:=6) x (nwF y.pass x) (.int .i64 y.pass) ⟨wb,wo+i*7+6,none⟩ (fun _=>Kr) (by first|rfl|simp) (hi) (rfl) (by decide))<|Xd ?_;rw[show M.length=(upN M x.id (nwF y.pass)).length by exact hl1.symm];rw[show(M.set i (nwF y.pass x))=(upN M x.id (nwF y.pass))by exact Zev hsM.nd hi (nwF y.pass)];obtain⟨M1,hM1⟩:∃M1,M1=upN M x.id (nwF y.pass):=⟨_,rfl⟩
    rw[←hM1]at hm1 hl1 hIn ⊢;have hnd1:(M1.map (·.id)).Nodup:=by rw[hM1];exact(hsM.upN (Zcx _)).nd
    refine Xq<|Xy0 0 [27] 28<|Xt [0,1,2,3,4,5,6,7,8,9,14,15,16,17,18] [(0,vp t),(2,vi 0),(3,.bool false),(4,vi i),(5,.slice A wy.length cp),(6,vi m),(104,.slice (sA wb wo) M1.length wc),(105,vi m),(109,.slice (sA wb wo) M1.length wc),(110,vi m),(118,.slice (sA wb wo) M1.length wc),(119,vi m)] [(⟨t,0,none⟩,.slice (sA wb wo) M1.length wc),(⟨t,0,none⟩,.slice (sA wb wo) M1.length wc),(⟨t,0,none⟩,.slice (sA wb wo) M1.length wc)] (hasC (ba 2) (hasC (ba 2) (hasC (ba 2) Zaa)))<|Xu 10 (Xi 159 (.tmp 109) (.tmp 110) wb wo M1.length wc m 7 163 (m:Int) 111 underlying159)<|Xt [11,12,13] [(0,vp t),(2,vi 0),(3,.bool false),(4,vi i),(5,.slice A wy.length cp),(6,vi m),(104,.slice (sA wb wo) M1.length wc),(105,vi m),(118,.slice (sA wb wo) M1.length wc),(119,vi m),(114,vi y.pass)] [(⟨wb,wo+m*7+3,none⟩,vi y.pass)] (hasC (Zac (E:=rnE) (xs:=M1) 0 rfl (x:=y) hm1 (j:=3) rfl) Zaa)<|Xu 19 (Xi 159 (.tmp 118) (.tmp 119) wb wo M1.length wc m 7 163 (m:Int) 120 underlying159)<|Xt [20,21,22] [(0,vp t),(2,vi 0),(3,.bool false),(4,vi i),(5,.slice A wy.length cp),(6,vi m),(104,.slice (sA wb wo) M1.length wc),(105,vi m),(114,vi y.pass),(123,vi y.wt)] [(⟨wb,wo+m*7+2,none⟩,vi y.wt)] (hasC (Zac (E:=rnE) (xs:=M1) 0 rfl (x:=y) hm1 (j:=2) rfl) Zaa)<|Yo 23 (Xa1 (some 124) (fun _=>vi (y.pass+ZaH y.wt)) (fun _=>(row rnE 163 (.slice (sA wb wo) (M1.length) wc) M1::row (kE .i64) 3 (.slice A wy.length cp) wy::blk t 161 [.slice (sA wb wo) M1.length wc]::H)) (Zku _ (by omega) hyw))<|Xu 24 (Xi 159 (.tmp 104) (.tmp 105) wb wo M1.length wc m 7 163 (m:Int) 125 underlying159)<|Xt [25,26] [(124,vi (y.pass+ZaH y.wt)),(0,vp t),(2,vi 0),(3,.bool false),(4,vi i),(5,.slice A wy.length cp),(6,vi m),(127,.pointer (sA wb (wo+m*7+3)))] [] Zaa<|Yo 27 (ZdU (E:=rnE) (J:=m) (j:=3) y (psF (y.pass+ZaH y.wt) y) (.int .i64 (y.pass+ZaH y.wt)) ⟨wb,wo+m*7+3,none⟩ (fun _=>Kr) (by first|rfl|simp) (hm1) (rfl) (by decide))<|Xd ?_;rw[show M1.length=(upN M1 y.id (psF (y.pass+ZaH y.wt))).length by simp[upN]];rw[show(M1.set m (psF (y.pass+ZaH y.wt) y))=(upN M1 y.id (psF (y.pass+ZaH y.wt)))by exact Zev hnd1 hm1 (psF (y.pass+ZaH y.wt))];refine Xq<|Xg 5<|Cr 3 2 [(0,vp t),(2,vi 0),(3,.bool false),(4,vi i),(5,.slice A wy.length cp),(6,vi m),(128,.slice A wy.length cp),(129,vi i)]<|Bx 2 (Xn 3 [vi i] (some 130) (fun b=> .slice (s0 b) 1 1)) fun b2=>Xh0 ?_ 2 2
    refine Bx 1 (Xf (E:=(kE .i64)) 42 (.tmp 128) (.tmp 130) A cp wy [(i:Int)] (.slice (s0 b2) 1 1) 131 underlying42 (ZrT) (Zbr (x:=(i:Int)) 1 rfl) (by simp;omega)) fun r3=>Ce [(0,vp t),(2,vi 0),(3,.bool false),(4,vi i),(5,.slice r3.1 ((wy++[(i:Int)]).length) r3.2),(6,vi m)]<|Xg 2<|Ce [(0,vp t),(2,vi 0),(3,.bool false),(4,vi m),(5,.slice r3.1 ((wy++[(i:Int)]).length) r3.2)]<|PT.pick 1 rfl<|PT.drop<|PT.pick 1 rfl<|PT.pick 2 rfl<|PT.pick 2 rfl<|Xp [(0,vp t),(2,vi 0),(3,.bool false),(4,vi m),(5,.slice r3.1 ((wy++[(i:Int)]).length) r3.2)] ?_
    exact Za3 (k-1) ⟨upN M1 y.id (psF (y.pass+ZaH y.wt)),m,wy++[(i:Int)],r3.1,r3.2⟩ rfl rfl (by omega) ⟨_,hIn⟩
section
variable {N L:List Nr}
theorem ZiO (h:N.Perm L)(hn:(N.map (·.id)).Nodup):(L.map (·.id)).Nodup:=((h.map (·.id)).nodup_iff).1 hn
theorem ZbR (h:N.Perm L)(hn:(N.map (·.id)).Nodup)(k:Int):gt N k=gt L k:=by
 cases hg:gt N k with
 |none=>exact(ZaX.2 fun x hx=>ZaX.1 hg x (h.mem_iff.2 hx)).symm
 |some x=>obtain⟨h1,rfl⟩:=ZaL hg;exact(ZbY (ZiO h hn) (h.mem_iff.1 h1)).symm
theorem Zc6 (h:N.Perm L)(k:Int)(f:Nr→Nr):(upN N k f).Perm (upN L k f):=h.map _
theorem Zgr (h:N.Perm L)(k:Int):(Zcy N k).Perm (Zcy L k):=h.filter _
theorem ZqF (h:N.Perm L)(k:Int):Zcy N k=[]↔Zcy L k=[]:=by
 constructor
 ·intro e;have:=Zgr h k;rw[e]at this;exact this.nil_eq.symm
 ·intro e;have:=(Zgr h k).symm;rw[e]at this;exact this.nil_eq.symm
theorem WFN.perm (h:N.Perm L)(hw:WFN N):WFN L:=by
 have hm:∀{x},x∈L→x∈N:=fun hx=>h.mem_iff.2 hx
 have hm':∀{x},x∈N→x∈L:=fun hx=>h.mem_iff.1 hx
 refine⟨⟨ZiO h hw.sk.nd,?_,fun x hx=>hw.sk.rt x (hm hx),fun x hx h0=>?_,by rw[←h.length_eq];exact hw.sk.len,?_⟩,fun x hx=>hw.wt x (hm hx),fun x hx=>hw.now x (hm hx),fun x hx=>hw.pass x (hm hx),fun x hx p hp=>hw.pn x (hm hx) p (hm hp),fun x hx ht=>?_⟩
 ·obtain⟨r,hr,e⟩:=hw.sk.root;exact⟨r,hm' hr,e⟩
 ·obtain⟨a,p,hp,b⟩:=hw.sk.pa x (hm hx) h0;exact⟨a,p,hm' hp,b⟩
 ·obtain⟨rk,hk⟩:=hw.sk.rk;exact⟨rk,fun x hx=>hk x (hm hx)⟩
 ·rw[hw.rd x (hm hx) ht]
  exact⟨fun⟨y,hy,a⟩=>⟨y,hm' hy,a⟩,fun⟨y,hy,a⟩=>⟨y,hm hy,a⟩⟩
theorem Zfl (h:N.Perm L)(hn:(N.map (·.id)).Nodup):∀(f:Nat) (k:Int),Za2 f N k=Za2 f L k
  |0,_=>rfl
  | f+1,k=>by
    rw[Za2,Za2,ZbR h hn];cases gt L k with
    |none=>rfl
    |some x=>simp only;rw[Zfl h hn f]
theorem ZoW (h:N.Perm L)(p:Nr→Bool):N.any p=L.any p:=by
 cases hb:L.any p with
 |true=>obtain⟨y,hy,e⟩:=List.any_eq_true.1 hb;exact List.any_eq_true.2 ⟨y,h.mem_iff.2 hy,e⟩
 |false=>exact List.any_eq_false.2 fun y hy=>List.any_eq_false.1 hb y (h.mem_iff.1 hy)
end
theorem ZgL : ∀(f:Nat) {N L:List Nr} (k:Int),N.Perm L→(N.map (·.id)).Nodup→(Zbk f N k).Perm (Zbk f L k)
  |0,_,_,_,h,_=>h
  | f + 1,N,L,k,h,hn=>by
    rw[Zbk,Zbk,ZbR h hn];cases gt L k with
    |none=>exact h
    | some x=>
      simp only;split
      · exact h
      · rw[ZbR h hn]
        cases gt L x.par with
        |none=>exact Zc6 h _ _
        |some p=>exact ZgL f _ (Zc6 h _ _) (by rw[Zdu];exact hn;exact fun _=>rfl)
theorem Ze2 : ∀(f:Nat) {N L:List Nr} (k:Int),N.Perm L→(N.map (·.id)).Nodup→(restN f N k).Perm (restN f L k)
  |0,_,_,_,h,_=>h
  | f + 1,N,L,k,h,hn=>by
    rw[restN,restN,ZbR h hn];cases gt L k with
    |none=>exact h
    | some x=>
      simp only[ne_eq,ZqF h];split
      · exact h
      · rw[ZbR h hn]
        cases gt L x.par with
        |none=>exact Zc6 h _ _
        |some p=>exact Ze2 f _ (Zc6 h _ _) (by rw[Zdu];exact hn;exact fun _=>rfl)
theorem ZkG {N L:List Nr}(h:N.Perm L)(hn:(N.map (·.id)).Nodup)(k:Int)(r:Bool):(Zag N k r).1=(Zag L k r).1∧(Zag N k r).2.Perm (Zag L k r).2:=by
  rw[Zag,Zag,ZbR h hn];cases gt L k with
  |none=>exact⟨rfl,h⟩
  | some x=>
    simp only;split
    · cases r
      · exact⟨rfl,Ze2 6 k h hn⟩
      · exact⟨rfl,ZgL 6 k h hn⟩
    · exact⟨rfl,h⟩
theorem Zh9 {N L:List Nr} (h:N.Perm L) (hn:(N.map (·.id)).Nodup) (k W:Int):(Zaq N k W).1=(Zaq L k W).1∧(Zaq N k W).2.Perm (Zaq L k W).2:=by
  rw[Zaq,Zaq,ZbR h hn];split
  · exact⟨rfl,h⟩
  · cases gt L k with
    |none=>exact⟨rfl,h⟩
    | some x=>
      simp only;split
      · exact⟨rfl,h⟩
      · rw[ZbR h hn]
        cases gt L x.par with
        |none=>exact⟨rfl,h⟩
        |some p=>exact⟨rfl,Zc6 h _ _⟩
theorem ZiG {N L:List Nr}(h:N.Perm L)(hn:(N.map (·.id)).Nodup)(k:Int):(Zap N k).1=(Zap L k).1∧(Zap N k).2.Perm (Zap L k).2:=by
 rw[Zap,Zap,ZbR h hn,ZoW h];split
 ·exact⟨rfl,h⟩
 ·split
  ·exact⟨rfl,h⟩
  ·exact⟨rfl,(Ze2 6 k h hn).filter _⟩
theorem ZoZ {N L :List Nr} (h:N.Perm L) (hn:(N.map (·.id)).Nodup) (par id wt:Int) (thr:Bool):(Zbs N par id wt thr).1=(Zb4 L par id wt thr).1∧(Zbs N par id wt thr).2.Perm (Zb4 L par id wt thr).2:=by
  rw[Zbs,Zb4,ZbR h hn,ZbR h hn,Zfl h hn,h.length_eq];split
  · exact⟨rfl,h⟩
  · cases gt L par with
    |none=>exact⟨rfl,h⟩
    | some p=>
      simp only;split
      · exact⟨rfl,h⟩
      · split
        · exact⟨rfl,h⟩
        · split
          · exact⟨rfl,h⟩
          · split
            · exact⟨rfl,h⟩
            · exact⟨rfl,(h.append_right _).trans (ZhB _ L).symm⟩
theorem ZkS {l m:List Nr}(h:l.Perm m)(hn:(l.map (·.id)).Nodup):least l=least m:=by
  cases hl:least m with
  |none=>have:=ZbX.1 hl;subst this;rw[h.eq_nil];rfl
  | some y=>
    obtain⟨h1,h2⟩:=least_some hl;exact ZjG hn (h.mem_iff.2 h1) fun z hz=>h2 z (h.mem_iff.1 hz)
theorem Zkj {N L:List Nr}(h:N.Perm L)(hn:(N.map (·.id)).Nodup)(k:Int):(Za6 N k).Perm (Za6 L k)∧((Za6 N k).map (·.id))=N.map (·.id):=by
  rw[Za6,Za6,ZbR h hn];cases gt L k with
  |none=>exact⟨h,rfl⟩
  | some g=>
    simp only;split
    · exact⟨h,rfl⟩
    · refine⟨Zc6 (h.map _) _ _,?_⟩
      rw[Zdu,List.map_map]
      · exact List.map_congr_left fun x _=>by simp only[Function.comp];split<;>rfl
      · exact fun _=>rfl
theorem ZhF :∀(way:List Int) {N L:List Nr},N.Perm L→(N.map (·.id)).Nodup→(way.foldl Za6 N).Perm (way.foldl Za6 L)∧(way.foldl Za6 N).map (·.id)=N.map (·.id)
  | [],_,_,h,_=>⟨h,rfl⟩
  | k::way,N,L,h,hn=>by
    obtain⟨h1,h2⟩:=Zkj h hn k;obtain⟨h3,h4⟩:=ZhF way h1 (by rw[h2];exact hn);exact⟨h3,h4.trans h2⟩
theorem ZhM :∀(f:Nat) {N L:List Nr} (k:Int) (way:List Int),N.Perm L→(N.map (·.id)).Nodup→(ZbL f N k way).1=(ZbL f L k way).1∧(ZbL f N k way).2.Perm (ZbL f L k way).2∧(ZbL f N k way).2.map (·.id)=N.map (·.id)
  |0,_,_,_,_,h,_=>⟨rfl,h,rfl⟩
  | f +1,N,L,k,way,h,hn=>by
    rw[ZbL,ZbL,ZkS (Zgr h k) (ZmT hn k)];cases least (Zcy L k)with
    |none=>exact⟨rfl,ZhF way h hn⟩
    | some y=>
      simp only;have e:(upN (upN N k fun x=>{x with now:=y.pass}) y.id fun x=>{x with pass:=y.pass+ZaH y.wt}).map (·.id)=N.map (·.id):=by rw[Zdu,Zdu]<;>exact fun _=>rfl
      obtain⟨h1,h2,h3⟩:=ZhM f y.id (way++[k]) (Zc6 (Zc6 h k (fun x=>{x with now:=y.pass})) y.id (fun x=>{x with pass:=y.pass+ZaH y.wt})) (by rw[e];exact hn);exact⟨h1,h2,h3.trans e⟩
theorem Zjv {N L:List Nr}(h:N.Perm L)(hn:(N.map (·.id)).Nodup):(Zcd N).1=(Zcd L).1∧(Zcd N).2.Perm (Zcd L).2∧(Zcd N).2.map (·.id)=N.map (·.id):=by
  rw[Zcd,Zcd,ZbR h hn];cases gt L 0 with
  |none=>exact⟨rfl,h,rfl⟩
  | some r=>
    simp only;split
    · obtain⟨h1,h2,h3⟩:=ZhM 6 0 [] h hn
      exact⟨by rw[h1],h2,h3⟩
    · exact⟨rfl,h,rfl⟩
structure TRel (N L:List Nr):Prop where
 perm:N.Perm L
 srt:(L.map (·.id)).Pairwise (· < ·)
theorem TRel.start :TRel [rootN] [rootN]:=⟨.refl _,by simp⟩
theorem ZjP {n:Nr}:∀{L:List Nr},(L.map (·.id)).Pairwise (· < ·)→(∀y∈L,y.id≠n.id)→((insN n L).map (·.id)).Pairwise (· < ·)
  | [],_,_=>by simp[insN]
  | y ::r,h,hno=>by
    simp only[List.map_cons,List.pairwise_cons,List.mem_map,forall_exists_index,and_imp,forall_apply_eq_imp_iff₂]at h;unfold insN;split
    · rename_i hlt
      simp only[List.map_cons,List.pairwise_cons,List.mem_map,forall_exists_index,and_imp,forall_apply_eq_imp_iff₂];refine⟨fun z hz=>?_,ZjP h.2 fun z hz=>hno z (by simp[hz])⟩;rcases insN_mem.1 hz with rfl|hz
      · exact hlt
      · exact h.1 z hz
    · rename_i hlt
      have:=hno y (by simp);simp only[List.map_cons,List.pairwise_cons,List.mem_cons,List.mem_map,forall_eq_or_imp,forall_exists_index,and_imp,forall_apply_eq_imp_iff₂];exact⟨⟨by omega,fun z hz=>by have:=h.1 z hz;omega⟩,h.1,h.2⟩
theorem TRel.ready {N L:List Nr}(h:TRel N L)(hw:WFN N)(k:Int)(r:Bool):(Zag N k r).1=(Zag L k r).1∧TRel (Zag N k r).2 (Zag L k r).2:=by
 obtain⟨h1,h2⟩:=ZkG h.perm hw.sk.nd k r;obtain⟨g,h3,h4⟩:=Zdo L k r;exact⟨h1,h2,by rw[h4,List.map_map,show((·.id)∘g:Nr→Int)=(·.id)from funext h3.id];exact h.srt⟩
theorem TRel.weight {N L:List Nr} (h:TRel N L) (hw:WFN N) (k W:Int):(Zaq N k W).1=(Zaq L k W).1∧TRel (Zaq N k W).2 (Zaq L k W).2:=by
  obtain⟨h1,h2⟩:=Zh9 h.perm hw.sk.nd k W;refine⟨h1,h2,?_⟩;rw[Zaq];split
  · exact h.srt
  · split
    · exact h.srt
    · split
      · exact h.srt
      · split
        · exact h.srt
        · show((upN L k _).map (·.id)).Pairwise (· < ·)
          rw[Zdu];exact h.srt;exact fun _=>rfl
theorem TRel.remove {N L:List Nr}(h:TRel N L)(hw:WFN N)(k:Int):(Zap N k).1=(Zap L k).1∧TRel (Zap N k).2 (Zap L k).2:=by
 obtain⟨h1,h2⟩:=ZiG h.perm hw.sk.nd k;refine⟨h1,h2,?_⟩;rw[Zap];split
 ·exact h.srt
 ·split
  ·exact h.srt
  ·obtain⟨g,h3,_,h4⟩:=ZbB 6 L k
   have:((restN 6 L k).map (·.id)).Pairwise (· < ·):=by rw[h4,List.map_map,show((·.id)∘g:Nr→Int)=(·.id)from funext h3.id];exact h.srt
   exact this.sublist (List.Sublist.map _ List.filter_sublist)
theorem TRel.add {N L:List Nr} (h:TRel N L) (hw:WFN N) (par id wt:Int) (thr:Bool):(Zbs N par id wt thr).1=(Zb4 L par id wt thr).1∧TRel (Zbs N par id wt thr).2 (Zb4 L par id wt thr).2:=by
  obtain⟨h1,h2⟩:=ZoZ h.perm hw.sk.nd par id wt thr;refine⟨h1,h2,?_⟩;rw[Zb4];split
  · exact h.srt
  · split
    · exact h.srt
    · split
      · exact h.srt
      · split
        · exact h.srt
        · rename_i hno
          split
          · exact h.srt
          · split
            · exact h.srt
            · refine ZjP h.srt fun y hy e=>hno ?_
              have:gt L id≠none:=fun hn=>ZaX.1 hn y hy e
              cases hg:gt L id with
              |none=>exact absurd hg this
              |some _=>rfl
theorem TRel.run {N L:List Nr}(h:TRel N L)(hw:WFN N):(Zcd N).1=(Zcd L).1∧TRel (Zcd N).2 (Zcd L).2:=by
 obtain⟨h1,h2,_⟩:=Zjv h.perm hw.sk.nd;obtain⟨_,_,h3⟩:=Zjv (.refl L) (ZiO h.perm hw.sk.nd);exact⟨h1,h2,by rw[h3];exact h.srt⟩
theorem TRel.deep {N L:List Nr}(h:TRel N L)(hw:WFN N)(k:Int):Za2 6 N k=Za2 6 L k:=Zfl h.perm hw.sk.nd 6 k
theorem TRel.wf {N L:List Nr}(h:TRel N L)(hw:WFN N):WFN L:=hw.perm h.perm
theorem TRel.nodes {N L:List Nr}(h:TRel N L)(hw:WFN N):Zaw N=L:=by
 have hn:=hw.sk.nd;have e:ZbA (N.map (·.id))=L.map (·.id):=by
  refine List.Perm.eq_of_pairwise (le:=fun a b=>a≤b) (fun a b _ _ h1 h2=>Int.le_antisymm h1 h2) ?_ (h.srt.imp fun h=>Int.le_of_lt h) ((List.mergeSort_perm _ _).trans (h.perm.map _));exact(List.pairwise_mergeSort (le:=fun a b:Int=>decide (a≤b)) (fun a b c h1 h2=>by simp at*;omega) (fun a b=>by simp;omega) _).imp fun h=>of_decide_eq_true h
 rw[Zaw,e,List.map_map];have:∀x∈L,(((fun k=>(gt N k).getD ZbE)∘(·.id)) x)=x:=fun x hx=>by
  simp only[Function.comp];rw[ZbY hn (h.perm.mem_iff.2 hx)];rfl
 rw[List.map_congr_left this];simp
def isG (N:List Nr)(k:Int):Bool:=(gt N k).isSome&& !((gt N k).getD ZbE).thr
theorem ZfO (H:List SP)(k t:Nat)(L:List Nr)(a:Option Addr)(c:Nat)(l:List (Int×Int))(Z:O4)(mt mg la:Int)(hw:WFN L)(id:Int):US 151 #[vp k,vi id] (blk k 94 [vp t,.slice a l.length c,vi Z.z0.c,vi Z.z1.c,vi Z.z2.c,vi Z.z3.c,.slice Z.z0.a Z.z0.l.length Z.z0.k,.slice Z.z1.a Z.z1.l.length Z.z1.k,.slice Z.z2.a Z.z2.l.length Z.z2.k,.slice Z.z3.a Z.z3.l.length Z.z3.k,vi mt,vi mg,vi la]::rtS t L::H) (.bool (isG L id)):=by
 have hl:=hw.sk.len;have hne:L≠ []:=by obtain⟨r,hr,_⟩:=hw.sk.root;exact List.ne_nil_of_mem hr
 refine eG func151 29 ?_;refine PT.pick 0 rfl ?_;refine PT.pick 1 rfl ?_;refine PT.openRt fun b o q=>?_
 refine Xq (Xg 1 (Ae 1 ?_));refine Xq (Xg 7 (Xl [(0,vp k),(4,.bool false),(9,vp t),(10,vi id)] [(⟨k,0,none⟩,vp t)] (hasC (ba 2) Zaa) ?_ 2 5));cases hg:gt L id with
 |none=>
  have hix:ixL L id= -1:=Zc0 (ZaX.1 hg);refine Xs (Xa (some 11) _ (ZaR _ t b o q L id (by omega))) (fun _=>?_) 1;rw[show ixL L id=(-1)by exact hix];refine Ae 1 ?_;refine Xq (Xg 18 (Ae 18 ?_));refine Xv (Y0 (.bool false) (fun w hs=>?_));exact⟨(),by rw[isG,hg];rfl,SatF.swap (Sat.closeRt hne hs)⟩
 | some x=>
  obtain⟨i,hi,hix⟩:=Zc1 hw.sk.nd hg;have hil:=(gSs hi).1;refine Xs (Xa (some 11) _ (ZaR _ t b o q L id (by omega))) (fun _=>?_) 1;rw[show ixL L id=(i:Int)by exact hix];refine Ae 1 ?_;refine Xq (Xg 18 (Xr [(0,vp k),(4,.bool false),(5,vi i),(14,.bool (decide ((i:Int)≥0)))] ?_ 15 3));refine(Xs0 1 14 [(4,.bool false),(28,.bool ((decide ((i:Int)≥0))&& (!x.thr)))] ?_ ?_:RT _ _ _ _ _ _ 15 _)
  ·cases hg3:(decide ((i:Int)≥0))with
   |true=>
    refine Xl [(4,.bool false),(14,.bool true),(21,.slice (some ⟨b,o,none⟩) L.length q),(22,vi i)] [(⟨k,0,none⟩,vp t),(⟨t,0,none⟩,.slice (some ⟨b,o,none⟩) L.length q)] (hasC (ba 2) (hasC (ba 0) Zaa)) ?_ 6 8;refine Xs (Zav (Xi 159 (.tmp 21) (.tmp 22) b o L.length q i 7 163 (i:Int) 23 underlying159)) (fun _=>?_) 5;refine Xm [(4,.bool false),(28,.bool (!x.thr))] [(⟨b,o+i*7+4,none⟩,.bool x.thr)] (hasC (Zac (E:=rnE) (xs:=L) 1 rfl (x:=x) hi (j:=4) rfl) Zaa) ?_ 5;refine Xp [(4,.bool false),(28,.bool (true&& (!x.thr)))] ?_;exact Zcm () rfl rfl
   |false=>
    refine Ae 14 ?_;exact mA ()
  refine Xe [(4,.bool ((decide ((i:Int)≥0))&& (!x.thr)))] ?_ 1;refine Xv (Y0 (.bool ((decide ((i:Int)≥0))&& (!x.thr))) (fun w hs=>?_));exact⟨(),by rw[isG,hg,decide_eq_true (by omega)];simp,SatF.swap (Sat.closeRt hne hs)⟩
theorem Zkw (H:List SP)(k t:Nat)(L:List Nr)(a:Option Addr)(c:Nat)(l:List (Int×Int))(Z:O4)(mt mg la:Int)(hw:WFN L)(id:Int):US 153 #[vp k,vi id] (blk k 94 [vp t,.slice a l.length c,vi Z.z0.c,vi Z.z1.c,vi Z.z2.c,vi Z.z3.c,.slice Z.z0.a Z.z0.l.length Z.z0.k,.slice Z.z1.a Z.z1.l.length Z.z1.k,.slice Z.z2.a Z.z2.l.length Z.z2.k,.slice Z.z3.a Z.z3.l.length Z.z3.k,vi mt,vi mg,vi la]::rtS t L::H) (.bool (isT L id)):=by
 have hl:=hw.sk.len;have hne:L≠ []:=by obtain⟨r,hr,_⟩:=hw.sk.root;exact List.ne_nil_of_mem hr
 refine eG func153 28 ?_;refine PT.pick 0 rfl ?_;refine PT.pick 1 rfl ?_;refine PT.openRt fun b o q=>?_
 refine Xq (Xg 1 (Ae 1 ?_));refine Xq (Xg 7 (Xl [(0,vp k),(4,.bool false),(9,vp t),(10,vi id)] [(⟨k,0,none⟩,vp t)] (hasC (ba 2) Zaa) ?_ 2 5));cases hg:gt L id with
 |none=>
  have hix:ixL L id= -1:=Zc0 (ZaX.1 hg);refine Xs (Xa (some 11) _ (ZaR _ t b o q L id (by omega))) (fun _=>?_) 1;rw[show ixL L id=(-1)by exact hix];refine Ae 1 ?_;refine Xq (Xg 17 (Ae 17 ?_));refine Xv (Y0 (.bool false) (fun w hs=>?_));exact⟨(),by rw[isT,hg];rfl,SatF.swap (Sat.closeRt hne hs)⟩
 | some x=>
  obtain⟨i,hi,hix⟩:=Zc1 hw.sk.nd hg;have hil:=(gSs hi).1;refine Xs (Xa (some 11) _ (ZaR _ t b o q L id (by omega))) (fun _=>?_) 1;rw[show ixL L id=(i:Int)by exact hix];refine Ae 1 ?_;refine Xq (Xg 17 (Xr [(0,vp k),(4,.bool false),(5,vi i),(14,.bool (decide ((i:Int)≥0)))] ?_ 14 3));refine(Xs0 1 13 [(4,.bool false),(27,.bool ((decide ((i:Int)≥0))&&x.thr))] ?_ ?_:RT _ _ _ _ _ _ 14 _)
  ·cases hg3:(decide ((i:Int)≥0))with
   |true=>
    refine Xl [(4,.bool false),(14,.bool true),(21,.slice (some ⟨b,o,none⟩) L.length q),(22,vi i)] [(⟨k,0,none⟩,vp t),(⟨t,0,none⟩,.slice (some ⟨b,o,none⟩) L.length q)] (hasC (ba 2) (hasC (ba 0) Zaa)) ?_ 5 8;refine Xs (Zav (Xi 159 (.tmp 21) (.tmp 22) b o L.length q i 7 163 (i:Int) 23 underlying159)) (fun _=>?_) 4;refine Xm [(4,.bool false),(27,.bool x.thr)] [(⟨b,o+i*7+4,none⟩,.bool x.thr)] (hasC (Zac (E:=rnE) (xs:=L) 1 rfl (x:=x) hi (j:=4) rfl) Zaa) ?_ 4;refine Xp [(4,.bool false),(27,.bool (true&&x.thr))] ?_;exact Zcm () rfl rfl
   |false=>
    refine Ae 13 ?_;exact mA ()
  refine Xe [(4,.bool ((decide ((i:Int)≥0))&&x.thr))] ?_ 1;refine Xv (Y0 (.bool ((decide ((i:Int)≥0))&&x.thr)) (fun w hs=>?_));exact⟨(),by rw[isT,hg,decide_eq_true (by omega)];simp,SatF.swap (Sat.closeRt hne hs)⟩
theorem ZfN (H:List SP)(k t:Nat)(L:List Nr)(a:Option Addr)(c:Nat)(l:List (Int×Int))(Z:O4)(mt mg la:Int)(hw:WFN L)(id:Int):US 157 #[vp k,vi id] (blk k 94 [vp t,.slice a l.length c,vi Z.z0.c,vi Z.z1.c,vi Z.z2.c,vi Z.z3.c,.slice Z.z0.a Z.z0.l.length Z.z0.k,.slice Z.z1.a Z.z1.l.length Z.z1.k,.slice Z.z2.a Z.z2.l.length Z.z2.k,.slice Z.z3.a Z.z3.l.length Z.z3.k,vi mt,vi mg,vi la]::rtS t L::H) (.bool (isR L id)):=by
 have hl:=hw.sk.len;have hne:L≠ []:=by obtain⟨r,hr,_⟩:=hw.sk.root;exact List.ne_nil_of_mem hr
 refine eG func157 42 ?_;refine PT.pick 0 rfl ?_;refine PT.pick 1 rfl ?_;refine PT.openRt fun b o q=>?_
 refine Xq (Xg 1 (Ae 1 ?_));refine Xq (Xg 7 (Xl [(0,vp k),(4,.bool false),(9,vp t),(10,vi id)] [(⟨k,0,none⟩,vp t)] (hasC (ba 2) Zaa) ?_ 2 5));cases hg:gt L id with
 |none=>
  have hix:ixL L id= -1:=Zc0 (ZaX.1 hg);refine Xs (Xa (some 11) _ (ZaR _ t b o q L id (by omega))) (fun _=>?_) 1;rw[show ixL L id=(-1)by exact hix];refine Ae 1 ?_;refine Xq (Xg 31 (Ae 31 ?_));refine Xv (Y0 (.bool false) (fun w hs=>?_));exact⟨(),by rw[isR,hg];rfl,SatF.swap (Sat.closeRt hne hs)⟩
 | some x=>
  obtain⟨i,hi,hix⟩:=Zc1 hw.sk.nd hg;have hil:=(gSs hi).1;refine Xs (Xa (some 11) _ (ZaR _ t b o q L id (by omega))) (fun _=>?_) 1;rw[show ixL L id=(i:Int)by exact hix];refine Ae 1 ?_;refine Xq (Xg 31 (Xr [(0,vp k),(4,.bool false),(5,vi i),(14,.bool (decide ((i:Int)≥0)))] ?_ 28 3));refine(Xs0 15 13 [(0,vp k),(4,.bool false),(5,vi i),(27,.bool ((decide ((i:Int)≥0))&&x.thr))] ?_ ?_:RT _ _ _ _ _ _ 28 _)
  ·cases hg3:(decide ((i:Int)≥0))with
   |true=>
    refine Xl [(0,vp k),(4,.bool false),(5,vi i),(14,.bool true),(21,.slice (some ⟨b,o,none⟩) L.length q),(22,vi i)] [(⟨k,0,none⟩,vp t),(⟨t,0,none⟩,.slice (some ⟨b,o,none⟩) L.length q)] (hasC (ba 2) (hasC (ba 0) Zaa)) ?_ 5 8;refine Xs (Zav (Xi 159 (.tmp 21) (.tmp 22) b o L.length q i 7 163 (i:Int) 23 underlying159)) (fun _=>?_) 4;refine Xm [(0,vp k),(4,.bool false),(5,vi i),(27,.bool x.thr)] [(⟨b,o+i*7+4,none⟩,.bool x.thr)] (hasC (Zac (E:=rnE) (xs:=L) 1 rfl (x:=x) hi (j:=4) rfl) Zaa) ?_ 4;refine Xp [(0,vp k),(4,.bool false),(5,vi i),(27,.bool (true&&x.thr))] ?_;exact Zcm () rfl rfl
   |false=>
    refine Ae 13 ?_;refine Xp [(0,vp k),(4,.bool false),(5,vi i),(27,.bool (false&&x.thr))] ?_;exact Zcm () rfl rfl
  refine Xr [(0,vp k),(4,.bool false),(5,vi i),(28,.bool ((decide ((i:Int)≥0))&&x.thr))] ?_ 14 1;refine(Xs0 1 13 [(4,.bool false),(41,.bool (((decide ((i:Int)≥0))&&x.thr)&&x.rdy))] ?_ ?_:RT _ _ _ _ _ _ 14 _)
  ·cases hg17:((decide ((i:Int)≥0))&&x.thr)with
   |true=>
    refine Xl [(4,.bool false),(28,.bool true),(35,.slice (some ⟨b,o,none⟩) L.length q),(36,vi i)] [(⟨k,0,none⟩,vp t),(⟨t,0,none⟩,.slice (some ⟨b,o,none⟩) L.length q)] (hasC (ba 2) (hasC (ba 0) Zaa)) ?_ 5 8;refine Xs (Zav (Xi 159 (.tmp 35) (.tmp 36) b o L.length q i 7 163 (i:Int) 37 underlying159)) (fun _=>?_) 4;refine Xm [(4,.bool false),(41,.bool x.rdy)] [(⟨b,o+i*7+5,none⟩,.bool x.rdy)] (hasC (Zac (E:=rnE) (xs:=L) 1 rfl (x:=x) hi (j:=5) rfl) Zaa) ?_ 4;refine Xp [(4,.bool false),(41,.bool (true&&x.rdy))] ?_;exact Zcm () rfl rfl
   |false=>
    refine Ae 13 ?_;exact mA ()
  refine Xe [(4,.bool (((decide ((i:Int)≥0))&&x.thr)&&x.rdy))] ?_ 1;refine Xv (Y0 (.bool (((decide ((i:Int)≥0))&&x.thr)&&x.rdy)) (fun w hs=>?_));exact⟨(),by rw[isR,hg,decide_eq_true (by omega)];simp,SatF.swap (Sat.closeRt hne hs)⟩
theorem Zex (H:List SP)(k t:Nat)(L:List Nr)(a:Option Addr)(c:Nat)(l:List (Int×Int))(Z:O4)(mt mg la:Int)(hw:WFN L)(thr:Bool):US 152 #[vp k,.bool thr] (blk k 94 [vp t,.slice a l.length c,vi Z.z0.c,vi Z.z1.c,vi Z.z2.c,vi Z.z3.c,.slice Z.z0.a Z.z0.l.length Z.z0.k,.slice Z.z1.a Z.z1.l.length Z.z1.k,.slice Z.z2.a Z.z2.l.length Z.z2.k,.slice Z.z3.a Z.z3.l.length Z.z3.k,vi mt,vi mg,vi la]::rtS t L::H) (vi (kcnt L thr)):=by
 have hl:=hw.sk.len;have hne:L≠ []:=by obtain⟨r,hr,_⟩:=hw.sk.root;exact List.ne_nil_of_mem hr
 refine eG func152 51 ?_;refine PT.pick 0 rfl ?_;refine PT.pick 1 rfl ?_;refine PT.openRt fun b o q=>?_
 refine Xq (Xg 1 (Ae 1 ?_));refine Xq (Xg 1 (Ae 1 ?_));refine Xq (Xq (Xg 1 (Ae 1 ?_)));refine Xb 0 (Xp [(0,vp k),(1,.bool thr),(4,vi 0),(5,vi 0),(6,vi 0)] (Xl0 (fun(u:Nat)=> [(0,vp k),(1,.bool thr),(4,vi 0),(5,vi (((L.take u).filter (cntP thr)).length:Int)),(6,vi u)]) (fun k (u:Nat)=>k+u=L.length) L.length 0 Kr (by simp) ?_));rintro j u hku;refine Xq (Xq (Xg 10 (Am 10 [(⟨k,0,none⟩,vp t),(⟨t,0,none⟩,.slice (some ⟨b,o,none⟩) L.length q)] (hasC (ba 2) (hasC (ba 0) Zaa)) ?_)));refine Xc (decide ((u:Int)< (L.length:Int))) (fun h1=>?_) (fun h1=>?_)
 ·have hu:u<L.length:=by have:=of_decide_eq_true h1;omega
  obtain⟨x,hx⟩:∃x,L[u]? =some x:=⟨_,gEe hu⟩
  have hxL:=gMm hx;have hx0:0≤x.id:=by by_cases c0:x.id=0;omega;have:=(hw.sk.pa x hxL c0).1;omega
  have hct:=Zj1 hx (cntP thr);have hcl:((L.take u).filter (cntP thr)).length≤60:=by have:=List.length_filter_le (cntP thr) (L.take u);simp only[List.length_take]at this;omega
  refine Xk (Xq (Xb 1 (Xq (Xg 29 (Al [(⟨k,0,none⟩,vp t),(⟨t,0,none⟩,.slice (some ⟨b,o,none⟩) L.length q)] (hasC (ba 2) (hasC (ba 0) Zaa)) ?_ 21 8)))));refine Xs (Zav (Xi 159 (.tmp 25) (.tmp 26) b o L.length q u 7 163 (u:Int) 27 underlying159)) (fun _=>?_) 20;refine Xl [(0,vp k),(1,.bool thr),(4,vi 0),(5,vi (((L.take u).filter (cntP thr)).length:Int)),(6,vi u),(33,.bool (x.thr==thr))] [(⟨b,o+u*7+4,none⟩,.bool x.thr)] (hasC (Zac (E:=rnE) (xs:=L) 1 rfl (x:=x) hx (j:=4) rfl) Zaa) ?_ 14 6;refine(Xs0 0 14 [(0,vp k),(1,.bool thr),(4,vi 0),(5,vi (((L.take u).filter (cntP thr)).length:Int)),(6,vi u),(47,.bool ((x.thr==thr)&& (decide (x.id>0))))] ?_ ?_:RT _ _ _ _ _ _ 14 _)
  ·cases hg15:(x.thr==thr)with
   |true=>
    refine Xl [(0,vp k),(1,.bool thr),(4,vi 0),(5,vi (((L.take u).filter (cntP thr)).length:Int)),(6,vi u),(33,.bool true),(40,.slice (some ⟨b,o,none⟩) L.length q),(41,vi u)] [(⟨k,0,none⟩,vp t),(⟨t,0,none⟩,.slice (some ⟨b,o,none⟩) L.length q)] (hasC (ba 2) (hasC (ba 0) Zaa)) ?_ 6 8;refine Xs (Zav (Xi 159 (.tmp 40) (.tmp 41) b o L.length q u 7 163 (u:Int) 42 underlying159)) (fun _=>?_) 5;refine Xm [(0,vp k),(1,.bool thr),(4,vi 0),(5,vi (((L.take u).filter (cntP thr)).length:Int)),(6,vi u),(47,.bool (decide (x.id>0)))] [(⟨b,o+u*7,none⟩,vi x.id)] (hasC (Zac (E:=rnE) (xs:=L) 1 rfl (x:=x) hx (j:=0) rfl) Zaa) ?_ 5;refine Xp [(0,vp k),(1,.bool thr),(4,vi 0),(5,vi (((L.take u).filter (cntP thr)).length:Int)),(6,vi u),(47,.bool (true&& (decide (x.id>0))))] ?_;exact Zcm () rfl rfl
   |false=>
    refine Xe [(0,vp k),(1,.bool thr),(4,vi 0),(5,vi (((L.take u).filter (cntP thr)).length:Int)),(6,vi u),(47,.bool false)] ?_ 14;refine Xp [(0,vp k),(1,.bool thr),(4,vi 0),(5,vi (((L.take u).filter (cntP thr)).length:Int)),(6,vi u),(47,.bool (false&& (decide (x.id>0))))] ?_;exact Zcm () rfl rfl
  refine endR ?_;refine Xc ((x.thr==thr)&& (decide (x.id>0))) (fun h2=>?_) (fun h2=>?_)
  ·have hp:cntP thr x=true:=by rw[cntP];simp only[Bool.and_eq_true,decide_eq_true_eq]at h2;simp[h2.1];omega
   rw[if_pos hp]at hct;refine Xg 3 (Ae 3 ?_);refine Xg 3 (Xe [(0,vp k),(1,.bool thr),(4,vi 0),(5,vi (IntKind.i64.wrap ((((L.take u).filter (cntP thr)).length:Int)+1))),(6,vi (IntKind.i64.wrap ((u:Int)+1)))] ?_ 3);rw[show IntKind.i64.wrap ((((L.take u).filter (cntP thr)).length:Int)+1)=((((L.take u).filter (cntP thr)).length:Int)+1)by rw[w64 (by omega) (by omega)]];rw[show IntKind.i64.wrap ((u:Int)+1)=((u:Int)+1)by rw[w64 (by omega) (by omega)]];rw[show((((L.take u).filter (cntP thr)).length:Int)+1)=(((L.take (u+1)).filter (cntP thr)).length:Int)by rw[hct];omega];refine Xp [(0,vp k),(1,.bool thr),(4,vi 0),(5,vi (((L.take (u+1)).filter (cntP thr)).length:Int)),(6,vi ((u:Int)+1))] ?_;exact Za3 (j-1) (u+1) rfl rfl (by omega) (by omega)
  ·have hp:¬cntP thr x=true:=by rw[cntP];intro hc;simp only[Bool.and_eq_true]at hc;simp only[Bool.and_eq_false_iff,decide_eq_false_iff_not]at h2;rcases h2 with h2|h2;(rw[hc.1]at h2;cases h2);(have:=hc.2;simp at this;omega)
   rw[if_neg hp,Nat.add_zero]at hct;refine Xk (Xg 3 (Xe [(0,vp k),(1,.bool thr),(4,vi 0),(5,vi (((L.take u).filter (cntP thr)).length:Int)),(6,vi (IntKind.i64.wrap ((u:Int)+1)))] ?_ 3));rw[show IntKind.i64.wrap ((u:Int)+1)=((u:Int)+1)by rw[w64 (by omega) (by omega)]];rw[show(((L.take u).filter (cntP thr)).length:Int)=(((L.take (u+1)).filter (cntP thr)).length:Int)by rw[hct];simp];refine Xp [(0,vp k),(1,.bool thr),(4,vi 0),(5,vi (((L.take (u+1)).filter (cntP thr)).length:Int)),(6,vi ((u:Int)+1))] ?_;exact Za3 (j-1) (u+1) rfl rfl (by omega) (by omega)
 ·have hu:u=L.length:=by have:=of_decide_eq_false h1;omega
  refine Xx 0 (Zao (Zao (Zax (Xq (Xg 2 (Ae 2 ?_))))));refine Xv (Y0 (vi (((L.take u).filter (cntP thr)).length:Int)) (fun w hs=>?_));exact⟨(),by rw[hu,List.take_length];rfl,SatF.swap (Sat.closeRt hne hs)⟩
def rkT (k t:Nat)(s:KS):SP:=exS fun p:List Nr×AN×O4=>two (Zcl (KOk s∧TRel s.N p.1∧p.2.2.ob=s.ob)) (Zaz [blk k 94 [.pointer (some ⟨t,0,none⟩),.slice p.2.1.1 s.tm.length p.2.1.2,.int .i64 p.2.2.z0.c,.int .i64 p.2.2.z1.c,.int .i64 p.2.2.z2.c,.int .i64 p.2.2.z3.c,.slice p.2.2.z0.a p.2.2.z0.l.length p.2.2.z0.k,.slice p.2.2.z1.a p.2.2.z1.l.length p.2.2.z1.k,.slice p.2.2.z2.a p.2.2.z2.l.length p.2.2.z2.k,.slice p.2.2.z3.a p.2.2.z3.l.length p.2.2.z3.k,.int .i64 s.mt,.int .i64 s.mg,.int .i64 (s.nx-1)],rtS t p.1,row tmE 227 (.slice p.2.1.1 s.tm.length p.2.1.2) s.tm,row (kE .i64) 3 (.slice p.2.2.z0.a p.2.2.z0.l.length p.2.2.z0.k) p.2.2.z0.l,row (kE .i64) 3 (.slice p.2.2.z1.a p.2.2.z1.l.length p.2.2.z1.k) p.2.2.z1.l,row (kE .i64) 3 (.slice p.2.2.z2.a p.2.2.z2.l.length p.2.2.z2.k) p.2.2.z2.l,row (kE .i64) 3 (.slice p.2.2.z3.a p.2.2.z3.l.length p.2.2.z3.k) p.2.2.z3.l])
theorem Sat.openKt {k t:Nat}{s:KS}{H:List SP}{w:World}(h:Sat w (rkT k t s::H)):∃(L:List Nr) (a:Option Addr) (c:Nat) (Z:O4),KOk s∧TRel s.N L∧Z.ob=s.ob∧Sat w (blk k 94 [.pointer (some ⟨t,0,none⟩),.slice a s.tm.length c,.int .i64 Z.z0.c,.int .i64 Z.z1.c,.int .i64 Z.z2.c,.int .i64 Z.z3.c,.slice Z.z0.a Z.z0.l.length Z.z0.k,.slice Z.z1.a Z.z1.l.length Z.z1.k,.slice Z.z2.a Z.z2.l.length Z.z2.k,.slice Z.z3.a Z.z3.l.length Z.z3.k,.int .i64 s.mt,.int .i64 s.mg,.int .i64 (s.nx-1)]::rtS t L::row tmE 227 (.slice a s.tm.length c) s.tm::row (kE .i64) 3 (.slice Z.z0.a Z.z0.l.length Z.z0.k) Z.z0.l::row (kE .i64) 3 (.slice Z.z1.a Z.z1.l.length Z.z1.k) Z.z1.l::row (kE .i64) 3 (.slice Z.z2.a Z.z2.l.length Z.z2.k) Z.z2.l::row (kE .i64) 3 (.slice Z.z3.a Z.z3.l.length Z.z3.k) Z.z3.l::H):=by
 obtain⟨⟨L,⟨a,c⟩,Z⟩,h⟩:=Sat.openEx h;obtain⟨⟨h1,h2,h3⟩,h⟩:=Sat.openPure (Sat.openTwo h);exact⟨L,a,c,Z,h1,h2,h3,Sat.openMany h⟩
theorem Sat.closeKt {k t:Nat}{L:List Nr}{a:Option Addr}{c:Nat}{Z:O4}{s:KS}{H:List SP}{w:World}(h1:KOk s)(h2:TRel s.N L)(h3:Z.ob=s.ob)(h:Sat w (blk k 94 [.pointer (some ⟨t,0,none⟩),.slice a s.tm.length c,.int .i64 Z.z0.c,.int .i64 Z.z1.c,.int .i64 Z.z2.c,.int .i64 Z.z3.c,.slice Z.z0.a Z.z0.l.length Z.z0.k,.slice Z.z1.a Z.z1.l.length Z.z1.k,.slice Z.z2.a Z.z2.l.length Z.z2.k,.slice Z.z3.a Z.z3.l.length Z.z3.k,.int .i64 s.mt,.int .i64 s.mg,.int .i64 (s.nx-1)]::rtS t L::row tmE 227 (.slice a s.tm.length c) s.tm::row (kE .i64) 3 (.slice Z.z0.a Z.z0.l.length Z.z0.k) Z.z0.l::row (kE .i64) 3 (.slice Z.z1.a Z.z1.l.length Z.z1.k) Z.z1.l::row (kE .i64) 3 (.slice Z.z2.a Z.z2.l.length Z.z2.k) Z.z2.l::row (kE .i64) 3 (.slice Z.z3.a Z.z3.l.length Z.z3.k) Z.z3.l::H)):Sat w (rkT k t s::H):=
 Sat.closeEx (L,(a,c),Z) (Sat.closeTwo (Sat.closePure ⟨h1,h2,h3⟩ (Sat.closeMany (l:=[blk k 94 [.pointer (some ⟨t,0,none⟩),.slice a s.tm.length c,.int .i64 Z.z0.c,.int .i64 Z.z1.c,.int .i64 Z.z2.c,.int .i64 Z.z3.c,.slice Z.z0.a Z.z0.l.length Z.z0.k,.slice Z.z1.a Z.z1.l.length Z.z1.k,.slice Z.z2.a Z.z2.l.length Z.z2.k,.slice Z.z3.a Z.z3.l.length Z.z3.k,.int .i64 s.mt,.int .i64 s.mg,.int .i64 (s.nx-1)],rtS t L,row tmE 227 (.slice a s.tm.length c) s.tm,row (kE .i64) 3 (.slice Z.z0.a Z.z0.l.length Z.z0.k) Z.z0.l,row (kE .i64) 3 (.slice Z.z1.a Z.z1.l.length Z.z1.k) Z.z1.l,row (kE .i64) 3 (.slice Z.z2.a Z.z2.l.length Z.z2.k) Z.z2.l,row (kE .i64) 3 (.slice Z.z3.a Z.z3.l.length Z.z3.k) Z.z3.l]) h)))
theorem Sat.closeKl {k t:Nat}{L:List Nr}{a:Option Addr}{c:Nat}{Z:O4}{s:KS}{la:Int}{H:List SP}{w:World}(h1:KOk s)(h2:TRel s.N L)(h3:Z.ob=s.ob)(h4:la=s.nx-1)(h:Sat w (blk k 94 [.pointer (some ⟨t,0,none⟩),.slice a s.tm.length c,.int .i64 Z.z0.c,.int .i64 Z.z1.c,.int .i64 Z.z2.c,.int .i64 Z.z3.c,.slice Z.z0.a Z.z0.l.length Z.z0.k,.slice Z.z1.a Z.z1.l.length Z.z1.k,.slice Z.z2.a Z.z2.l.length Z.z2.k,.slice Z.z3.a Z.z3.l.length Z.z3.k,.int .i64 s.mt,.int .i64 s.mg,.int .i64 la]::rtS t L::row tmE 227 (.slice a s.tm.length c) s.tm::row (kE .i64) 3 (.slice Z.z0.a Z.z0.l.length Z.z0.k) Z.z0.l::row (kE .i64) 3 (.slice Z.z1.a Z.z1.l.length Z.z1.k) Z.z1.l::row (kE .i64) 3 (.slice Z.z2.a Z.z2.l.length Z.z2.k) Z.z2.l::row (kE .i64) 3 (.slice Z.z3.a Z.z3.l.length Z.z3.k) Z.z3.l::H)):Sat w (rkT k t s::H):=by
 subst h4;exact Sat.closeKt h1 h2 h3 h
theorem TRel.gt {N L:List Nr}(h:TRel N L)(hw:WFN N)(k:Int):gt N k=gt L k:=ZbR h.perm hw.sk.nd k
theorem TRel.isT {N L:List Nr}(h:TRel N L)(hw:WFN N)(k:Int):isT L k=isT N k:=by unfold Go.Proofs.YtfhkgohokbkgiaaGreatDoor.isT;rw[h.gt hw]
theorem TRel.isR {N L:List Nr}(h:TRel N L)(hw:WFN N)(k:Int):isR L k=isR N k:=by unfold Go.Proofs.YtfhkgohokbkgiaaGreatDoor.isR;rw[h.gt hw]
theorem TRel.isG {N L:List Nr}(h:TRel N L)(hw:WFN N)(k:Int):isG L k=isG N k:=by unfold Go.Proofs.YtfhkgohokbkgiaaGreatDoor.isG;rw[h.gt hw]
theorem TRel.cnt {N L:List Nr}(h:TRel N L)(b:Bool):kcnt L b=kcnt N b:=by unfold kcnt;rw[(h.perm.filter _).length_eq]
theorem Zm0 {N:List Nr}{k:Int}:isG N k=true↔∃p,gt N k=some p∧p.thr=false:=by
 unfold isG;cases gt N k with
 |none=>simp
 |some x=>simp
theorem ZjN {s:KS}{par wt most:Int}{thr:Bool}(hw:isW wt=true)(hg:isG s.N par=false):ZaB s par wt most thr=((0,13),s):=by
 rw[ZaB,if_neg (by rw[hw];simp),if_pos];unfold isG at hg;cases h:gt s.N par with
 |none=>simp
 |some x=>rw[h]at hg;simpa using hg
theorem ZmM {s:KS}(h:KOk s){par wt:Int}{p:Nr}(hw:isW wt=true)(hp:gt s.N par=some p)(hpt:p.thr=false)(hc:kcnt s.N true<s.mt):Zau s par wt=((s.nx,0),{s with N:=(Zag (Zbs s.N par s.nx wt true).2 s.nx true).2,nx:=s.nx+1}):=by
 have h1:=Zgt (most:=s.mt) (thr:=true) h hw hp hpt (.inl rfl) hc;have h2:=ZgC (N:=s.N) (par:=par) (id:=s.nx) (wt:=wt) (thr:=true) (p:=p) hw h.nx hp hpt h.free (.inl rfl) (by have:=h.len;omega);refine Prod.ext (Zhs h hw hp hpt hc).1 ?_;unfold Zau;rw[h1,h2];simp
theorem ZmV {s:KS}(h:KOk s){par wt:Int}{p:Nr}(hw:isW wt=true)(hp:gt s.N par=some p)(hpt:p.thr=false)(hd:Za2 6 s.N par<4)(hc:kcnt s.N false<s.mg):ZaC s par wt=((s.nx,0),{s with N:=(Zbs s.N par s.nx wt false).2,nx:=s.nx+1}):=by
 have h1:=Zgt (most:=s.mg) (thr:=false) h hw hp hpt (.inr hd) hc;have h2:=ZgC (N:=s.N) (par:=par) (id:=s.nx) (wt:=wt) (thr:=false) (p:=p) hw h.nx hp hpt h.free (.inr hd) (by have:=h.len;omega);rw[ZaC,h1,h2]
theorem ZmW {s:KS}(h:KOk s){par wt:Int}{p:Nr}(hw:isW wt=true)(hp:gt s.N par=some p)(hpt:p.thr=false)(hd:4≤Za2 6 s.N par)(hc:kcnt s.N false<s.mg):ZaC s par wt=((0,12),s):=by
 have ha:Zbs s.N par s.nx wt false=(12,s.N):=by
  rw[Zbs,if_neg (by rw[hw];simp;have:=h.nx;omega),hp];simp only;rw[if_neg (by rw[hpt];simp),if_neg (by rw[h.free];simp),if_pos (by simpa using hd)]
 rw[ZaC,ZaB,if_neg (by rw[hw];simp),if_neg (by rw[hp];simp[hpt]),if_neg (by omega),if_pos (by rw[ha];simp),ha]
theorem KOk.obh {s:KS}(h:KOk s):∀o∈s.ob,0≤o.1∧o.1≤255∧o.2.length≤1000:=fun o ho=>by
 have:=h.obb o ho;have h1:=h.obc o ho;have h2:=ZeJ (h.obn o ho) (m:=s.N.map (·.id)) fun i hi=>(h.obo o ho i hi).mem
 have h3:=h.wf.sk.len;rw[List.length_map]at h2;exact⟨h1.1,h1.2,by omega⟩
theorem Zp4 (H:List SP)(t:Nat)(L:List Nr)(hsk:SK L)(k:Int):US 147 #[vp t,vi k] (rtS t L::H) (vi (Za2 6 L k:Int)):=fun w hs=>by
 obtain⟨b,o,c,hs⟩:=Sat.openRt hs;have hne:L≠ []:=by obtain⟨r,hr,_⟩:=hsk.root;exact List.ne_nil_of_mem hr
 exact(ZfR H t b o c L hsk k w hs).mono fun e w' ⟨_,he,hx⟩=>⟨(),he,Sat.closeRt hne hx⟩
theorem Zg4 (H:List SP)(k t:Nat)(L:List Nr)(a:Option Addr)(c:Nat)(Z:O4)(s:KS)(hk:KOk s)(hT:TRel s.N L)(hZ:Z.ob=s.ob)(hid:s.nx≤1099511627776)(par wt:Int):U0 107 #[vp k,vi par,vi wt] (blk k 94 [vp t,.slice a s.tm.length c,vi Z.z0.c,vi Z.z1.c,vi Z.z2.c,vi Z.z3.c,.slice Z.z0.a Z.z0.l.length Z.z0.k,.slice Z.z1.a Z.z1.l.length Z.z1.k,.slice Z.z2.a Z.z2.l.length Z.z2.k,.slice Z.z3.a Z.z3.l.length Z.z3.k,vi s.mt,vi s.mg,vi (s.nx-1)]::rtS t L::row tmE 227 (.slice a s.tm.length c) s.tm::row (kE .i64) 3 (.slice Z.z0.a Z.z0.l.length Z.z0.k) Z.z0.l::row (kE .i64) 3 (.slice Z.z1.a Z.z1.l.length Z.z1.k) Z.z1.l::row (kE .i64) 3 (.slice Z.z2.a Z.z2.l.length Z.z2.k) Z.z2.l::row (kE .i64) 3 (.slice Z.z3.a Z.z3.l.length Z.z3.k) Z.z3.l::H) (.tuple #[vi (Zau s par wt).1.1,vi (Zau s par wt).1.2]) (rkT k t (Zau s par wt).2::H):=by
 have hw:=hk.wf;have hwL:=hT.wf hw;have hnx:=hk.nx;refine eG func107 57 ?_;refine Xq<|Xg 2<|Be<|Xq<|Xb 0<|Xq<|Xg 4<|Br 3 1<|Bs 2 (Xa (some 10) _ (ZcH _ wt))<|Ce [(0,vp k),(1,vi par),(2,vi wt),(6,vi 0),(7,vi 0),(8,.bool (!(isW wt)))] ?_;cases hW:isW wt with
 |false=>
  refine cT<|Xq<|Xg 2<|Be<|Xv (Zae (Zab ?_));have e:Zau s par wt=((0,10),s):=by unfold Zau ZaB;rw[if_pos hW];simp
  refine Y0 (.tuple #[vi 0,vi 10]) (fun w hs=>?_);exact⟨(),by rw[e],by rw[e];exact Sat.closeKt hk hT hZ hs⟩
 | true=>
  refine cF<|Xq<|Xg 5<|Cr 3 2 [(0,vp k),(1,vi par),(2,vi wt),(6,vi 0),(7,vi 0),(13,vp k),(14,vi par)]<|Bs 2 (Xa (some 15) _ ((by have h:=ZfO (row tmE 227 (.slice a s.tm.length c) s.tm::row (kE .i64) 3 (.slice Z.z0.a Z.z0.l.length Z.z0.k) Z.z0.l::row (kE .i64) 3 (.slice Z.z1.a Z.z1.l.length Z.z1.k) Z.z1.l::row (kE .i64) 3 (.slice Z.z2.a Z.z2.l.length Z.z2.k) Z.z2.l::row (kE .i64) 3 (.slice Z.z3.a Z.z3.l.length Z.z3.k) Z.z3.l::H) k t L a c s.tm Z s.mt s.mg (s.nx-1) hwL par;rw[hT.isG hw]at h;exact h))) ?_;cases hG:isG s.N par with
  |false=>
   refine Ae 2 ?_;refine cT<|Xq<|Xg 2<|Be<|Xv (Zae (Zab ?_));have e:Zau s par wt=((0,13),s):=by unfold Zau;rw[ZjN hW hG];simp
   refine Y0 (.tuple #[vi 0,vi 13]) (fun w hs=>?_);exact⟨(),by rw[e],by rw[e];exact Sat.closeKt hk hT hZ hs⟩
  | true=>
   obtain⟨p,hp,hpt⟩:=Zm0.1 hG;refine Be<|cF<|Xq<|Xy0 0 [] 8<|At' [0,2,3,4,5] [(⟨k,10,none⟩,vi s.mt)] (hasC (ba 0) Zaa)<|Yo 1 (Xa (some 19) _ ((by have h:=Zex (row tmE 227 (.slice a s.tm.length c) s.tm::row (kE .i64) 3 (.slice Z.z0.a Z.z0.l.length Z.z0.k) Z.z0.l::row (kE .i64) 3 (.slice Z.z1.a Z.z1.l.length Z.z1.k) Z.z1.l::row (kE .i64) 3 (.slice Z.z2.a Z.z2.l.length Z.z2.k) Z.z2.l::row (kE .i64) 3 (.slice Z.z3.a Z.z3.l.length Z.z3.k) Z.z3.l::H) k t L a c s.tm Z s.mt s.mg (s.nx-1) hwL true;rw[hT.cnt]at h;exact h)))<|At' [6,7] [] Zaa<|Xd (Xc (decide ((kcnt s.N true)≥s.mt)) (fun h3=>?_) (fun h3=>?_))
   ·have e:=ZiV hW hp hpt (of_decide_eq_true h3);exact Xq<|Xg 2<|Be<|Xv (Zae (Zab (Y0 (.tuple #[vi 0,vi 14]) fun w hs=>⟨(),by rw[e],by rw[e];exact Sat.closeKt hk hT hZ hs⟩)))
   ·obtain⟨e1,e2,e3⟩:=Zhs hk hW hp hpt (by have:=of_decide_eq_false h3;omega);refine Xk<|Xq<|Xg 9<|Bl 1 8 [(⟨k,12,none⟩,vi (s.nx-1))] (hasC (ba 0) Zaa)<|Bs 0 (Xz [(12,vi (IntKind.i64.wrap ((s.nx-1)+1)))])<|endR<|Xq<|Xy0 0 [10] 11<|Xt [0,1,2,3,4,5,6,7,8,9] [(0,vp k),(6,vi 0),(7,vi 0),(36,vp t),(37,vi par),(41,vi (IntKind.i64.wrap ((s.nx-1)+1))),(42,vi wt)] [(⟨k,0,none⟩,vp t),(⟨k,12,none⟩,vi (IntKind.i64.wrap ((s.nx-1)+1)))] (hasC (ba 0) (hasC (ba 0) Zaa)) ?_;rw[show IntKind.i64.wrap ((s.nx-1)+1)=((s.nx-1)+1)by rw[w64 (by omega) (by omega)]];have e:=ZmM hk hW hp hpt (by have:=of_decide_eq_false h3;omega);rw[e]at e2;have hA:=hT.add hw par s.nx wt true;have hAw:=hA.2.wf (Zf2 hw par s.nx wt true);have hB:=hA.2.ready (Zf2 hw par s.nx wt true) s.nx true;rw[show((s.nx-1)+1)=s.nx by omega];exact Yo 10 (Xa (some 43) _ (Zak 1 rfl (Ze4 _ t L hwL par s.nx wt true)))<|Xd<|Xq<|Xy0 0 [8] 9<|At' [0,1,2,3,4,5,6,7] [(⟨k,0,none⟩,vp t),(⟨k,12,none⟩,vi s.nx)] (hasC (ba 0) (hasC (ba 0) Zaa))<|Yo 8 (Xa (some 52) _ (Zak 1 rfl (ZbF _ t _ hAw s.nx true)))<|Xd<|Xq<|Xg 6<|Bm [(⟨k,12,none⟩,vi s.nx)] (hasC (ba 0) Zaa)<|Xv (Y0 (.tuple #[vi s.nx,vi 0]) fun w hs=>⟨(),by rw[e],by rw[e];exact Sat.closeKl e2 hB.2 hZ (by simp only;omega) hs⟩)
theorem Zg6 (H:List SP)(k t:Nat)(L:List Nr)(a:Option Addr)(c:Nat)(Z:O4)(s:KS)(hk:KOk s)(hT:TRel s.N L)(hZ:Z.ob=s.ob)(hid:s.nx≤1099511627776)(par wt:Int):U0 108 #[vp k,vi par,vi wt] (blk k 94 [vp t,.slice a s.tm.length c,vi Z.z0.c,vi Z.z1.c,vi Z.z2.c,vi Z.z3.c,.slice Z.z0.a Z.z0.l.length Z.z0.k,.slice Z.z1.a Z.z1.l.length Z.z1.k,.slice Z.z2.a Z.z2.l.length Z.z2.k,.slice Z.z3.a Z.z3.l.length Z.z3.k,vi s.mt,vi s.mg,vi (s.nx-1)]::rtS t L::row tmE 227 (.slice a s.tm.length c) s.tm::row (kE .i64) 3 (.slice Z.z0.a Z.z0.l.length Z.z0.k) Z.z0.l::row (kE .i64) 3 (.slice Z.z1.a Z.z1.l.length Z.z1.k) Z.z1.l::row (kE .i64) 3 (.slice Z.z2.a Z.z2.l.length Z.z2.k) Z.z2.l::row (kE .i64) 3 (.slice Z.z3.a Z.z3.l.length Z.z3.k) Z.z3.l::H) (.tuple #[vi (ZaC s par wt).1.1,vi (ZaC s par wt).1.2]) (rkT k t (ZaC s par wt).2::H):=by
 have hw:=hk.wf;have hwL:=hT.wf hw;have hnx:=hk.nx;have hne:L≠ []:=by obtain⟨r,hr,_⟩:=hwL.sk.root;exact List.ne_nil_of_mem hr
 refine eG func108 57 ?_;refine Xq<|Xg 2<|Be<|Xq<|Xb 0<|Xq<|Xg 4<|Br 3 1<|Bs 2 (Xa (some 10) _ (ZcH _ wt))<|Ce [(0,vp k),(1,vi par),(2,vi wt),(6,vi 0),(7,vi 0),(8,.bool (!(isW wt)))] ?_;cases hW:isW wt with
 |false=>
  refine cT<|Xq<|Xg 2<|Be<|Xv (Zae (Zab ?_));have e:ZaC s par wt=((0,10),s):=by unfold ZaC ZaB;rw[if_pos hW]
  refine Y0 (.tuple #[vi 0,vi 10]) (fun w hs=>?_);exact⟨(),by rw[e],by rw[e];exact Sat.closeKt hk hT hZ hs⟩
 | true=>
  refine cF<|Xq<|Xg 5<|Cr 3 2 [(0,vp k),(1,vi par),(2,vi wt),(6,vi 0),(7,vi 0),(13,vp k),(14,vi par)]<|Bs 2 (Xa (some 15) _ ((by have h:=ZfO (row tmE 227 (.slice a s.tm.length c) s.tm::row (kE .i64) 3 (.slice Z.z0.a Z.z0.l.length Z.z0.k) Z.z0.l::row (kE .i64) 3 (.slice Z.z1.a Z.z1.l.length Z.z1.k) Z.z1.l::row (kE .i64) 3 (.slice Z.z2.a Z.z2.l.length Z.z2.k) Z.z2.l::row (kE .i64) 3 (.slice Z.z3.a Z.z3.l.length Z.z3.k) Z.z3.l::H) k t L a c s.tm Z s.mt s.mg (s.nx-1) hwL par;rw[hT.isG hw]at h;exact h))) ?_;cases hG:isG s.N par with
  |false=>
   refine Ae 2 ?_;refine cT<|Xq<|Xg 2<|Be<|Xv (Zae (Zab ?_));have e:ZaC s par wt=((0,13),s):=by unfold ZaC;rw[ZjN hW hG]
   refine Y0 (.tuple #[vi 0,vi 13]) (fun w hs=>?_);exact⟨(),by rw[e],by rw[e];exact Sat.closeKt hk hT hZ hs⟩
  | true=>
   obtain⟨p,hp,hpt⟩:=Zm0.1 hG;refine Be<|cF<|Xq<|Xy0 0 [] 8<|At' [0,2,3,4,5] [(⟨k,11,none⟩,vi s.mg)] (hasC (ba 0) Zaa)<|Yo 1 (Xa (some 19) _ ((by have h:=Zex (row tmE 227 (.slice a s.tm.length c) s.tm::row (kE .i64) 3 (.slice Z.z0.a Z.z0.l.length Z.z0.k) Z.z0.l::row (kE .i64) 3 (.slice Z.z1.a Z.z1.l.length Z.z1.k) Z.z1.l::row (kE .i64) 3 (.slice Z.z2.a Z.z2.l.length Z.z2.k) Z.z2.l::row (kE .i64) 3 (.slice Z.z3.a Z.z3.l.length Z.z3.k) Z.z3.l::H) k t L a c s.tm Z s.mt s.mg (s.nx-1) hwL false;rw[hT.cnt]at h;exact h)))<|At' [6,7] [] Zaa<|Xd (Xc (decide ((kcnt s.N false)≥s.mg)) (fun h3=>?_) (fun h3=>?_))
   ·have e:=Zi0 hW hp hpt (of_decide_eq_true h3);exact Xq<|Xg 2<|Be<|Xv (Zae (Zab (Y0 (.tuple #[vi 0,vi 14]) fun w hs=>⟨(),by rw[e],by rw[e];exact Sat.closeKt hk hT hZ hs⟩)))
   ·have h3':kcnt s.N false<s.mg:=by have:=of_decide_eq_false h3;omega
    have hdl:=Zgy 6 s.N par;refine Xq<|Xg 9<|Bl 4 5 [(⟨k,0,none⟩,vp t)] (hasC (ba 0) Zaa)<|Bs 3 (Xa (some 31) _ (Zak (H:=(blk k 94 [vp t,.slice a s.tm.length c,.int .i64 Z.z0.c,.int .i64 Z.z1.c,.int .i64 Z.z2.c,.int .i64 Z.z3.c,.slice Z.z0.a Z.z0.l.length Z.z0.k,.slice Z.z1.a Z.z1.l.length Z.z1.k,.slice Z.z2.a Z.z2.l.length Z.z2.k,.slice Z.z3.a Z.z3.l.length Z.z3.k,.int .i64 s.mt,.int .i64 s.mg,.int .i64 (s.nx-1)]::rtS t L::row tmE 227 (.slice a s.tm.length c) s.tm::row (kE .i64) 3 (.slice Z.z0.a Z.z0.l.length Z.z0.k) Z.z0.l::row (kE .i64) 3 (.slice Z.z1.a Z.z1.l.length Z.z1.k) Z.z1.l::row (kE .i64) 3 (.slice Z.z2.a Z.z2.l.length Z.z2.k) Z.z2.l::row (kE .i64) 3 (.slice Z.z3.a Z.z3.l.length Z.z3.k) Z.z3.l::H)) 1 rfl (by have h:=fun H'=>Zp4 H' t L hwL.sk par;rw[←hT.deep hw]at h;exact h _)))<|Ce [(0,vp k),(1,vi par),(2,vi wt),(6,vi 0),(7,vi 0),(25,.bool (decide ((IntKind.i64.wrap ((Za2 6 s.N par:Int)+1))>4)))] ?_;rw[show IntKind.i64.wrap ((Za2 6 s.N par:Int)+1)=((Za2 6 s.N par:Int)+1)by rw[w64 (by omega) (by omega)]];refine Xc (decide (((Za2 6 s.N par:Int)+1)>4)) (fun h4=>?_) (fun h4=>?_)
    ·have e:=ZmW hk hW hp hpt (by have:=of_decide_eq_true h4;omega) h3';exact Xq<|Xg 2<|Be<|Xv (Zae (Zab (Y0 (.tuple #[vi 0,vi 12]) fun w hs=>⟨(),by rw[e],by rw[e];exact Sat.closeKt hk hT hZ hs⟩)))
    ·have h4':Za2 6 s.N par<4:=by have:=of_decide_eq_false h4;omega
     have e:=ZmV hk hW hp hpt h4' h3';have e2:=Zhv hk par wt;rw[e]at e2;have hA:=hT.add hw par s.nx wt false;refine Xk<|Xq<|Xg 9<|Bl 1 8 [(⟨k,12,none⟩,vi (s.nx-1))] (hasC (ba 0) Zaa)<|Bs 0 (Xz [(12,vi (IntKind.i64.wrap ((s.nx-1)+1)))])<|endR<|Xq<|Xy0 0 [10] 11<|Xt [0,1,2,3,4,5,6,7,8,9] [(0,vp k),(6,vi 0),(7,vi 0),(45,vp t),(46,vi par),(50,vi (IntKind.i64.wrap ((s.nx-1)+1))),(51,vi wt)] [(⟨k,0,none⟩,vp t),(⟨k,12,none⟩,vi (IntKind.i64.wrap ((s.nx-1)+1)))] (hasC (ba 0) (hasC (ba 0) Zaa)) ?_;rw[show IntKind.i64.wrap ((s.nx-1)+1)=((s.nx-1)+1)by rw[w64 (by omega) (by omega)]];rw[show((s.nx-1)+1)=s.nx by omega];exact Yo 10 (Xa (some 52) _ (Zak 1 rfl (Ze4 _ t L hwL par s.nx wt false)))<|Xd<|Xq<|Xg 6<|Bm [(⟨k,12,none⟩,vi s.nx)] (hasC (ba 0) Zaa)<|Xv (Y0 (.tuple #[vi s.nx,vi 0]) fun w hs=>⟨(),by rw[e],by rw[e];exact Sat.closeKl e2 hA.2 hZ (by simp only;omega) hs⟩)
theorem Zox {s:KS}(h:KOk s){k:Int}(ht:isT s.N k=true):Zbn s k=(0,{s with N:=(Zap s.N k).2,tm:=Zbi k s.tm,ob:=ZcP s.ob k}):=by
 obtain⟨N',e,_⟩:=ZmY h ht;have e2:Zbn s k=((Zap s.N k).1,{s with N:=(Zap s.N k).2,tm:=Zbi k s.tm,ob:=ZcP s.ob k}):=by rw[Zbn,if_neg (by rw[ht];simp)]
 rw[e2]at e ⊢;rw[(Prod.ext_iff.1 e).1]
theorem ZmO {s:KS}(h:KOk s){k:Int}(hr:isR s.N k=true)(u:Int):ZaY s k u=(0,{s with N:=(Zag s.N k false).2,tm:=Zbq k u s.tm}):=by
 rw[ZaY,if_neg (by rw[hr];simp),(Zdd h.wf.sk (ZmZ hr) false).1]
theorem Zmq {s:KS}(h:KOk s){j:Int}(hm:(Zay s.ob j).1.2.1=true):(Zay s.ob j).1.2.2=0∧isT s.N (Zay s.ob j).1.1=true:=by
 unfold Zay at hm ⊢;by_cases hj:Zff j=false
 ·rw[if_pos hj]at hm;cases hm
 ·rw[if_neg hj]at hm ⊢
  have hj:Zff j=true:=by simpa using hj
  obtain⟨a1,a2,a3⟩:=ZdY h.ob hj;cases hl:(Zcq s.ob j).2 with
  |nil=>rw[hl]at hm;cases hm
  |cons x r=>exact⟨rfl,((Zql h.wf.sk).1 (h.obo _ a2 x (by rw[hl];simp))).1⟩
theorem Zmp {s:KS}{j:Int}(hm:(Zay s.ob j).1.2.1=false):ZaA s j=((Zay s.ob j).1.2.2,{s with ob:=(Zay s.ob j).2}):=by rw[ZaA,if_pos (.inr hm)]
theorem ZiB (H:List SP)(k t:Nat)(L:List Nr)(a:Option Addr)(c:Nat)(Z:O4)(s:KS)(hk:KOk s)(hT:TRel s.N L)(hZ:Z.ob=s.ob)(id:Int):U0 109 #[vp k,vi id] (blk k 94 [vp t,.slice a s.tm.length c,vi Z.z0.c,vi Z.z1.c,vi Z.z2.c,vi Z.z3.c,.slice Z.z0.a Z.z0.l.length Z.z0.k,.slice Z.z1.a Z.z1.l.length Z.z1.k,.slice Z.z2.a Z.z2.l.length Z.z2.k,.slice Z.z3.a Z.z3.l.length Z.z3.k,vi s.mt,vi s.mg,vi (s.nx-1)]::rtS t L::row tmE 227 (.slice a s.tm.length c) s.tm::row (kE .i64) 3 (.slice Z.z0.a Z.z0.l.length Z.z0.k) Z.z0.l::row (kE .i64) 3 (.slice Z.z1.a Z.z1.l.length Z.z1.k) Z.z1.l::row (kE .i64) 3 (.slice Z.z2.a Z.z2.l.length Z.z2.k) Z.z2.l::row (kE .i64) 3 (.slice Z.z3.a Z.z3.l.length Z.z3.k) Z.z3.l::H) (vi (Zbn s id).1) (rkT k t (Zbn s id).2::H):=by
 have hw:=hk.wf;have hwL:=hT.wf hw;refine eG func109 25 ?_;refine Xq<|Xg 1<|Be<|Xq<|Xq<|Xg 4<|Cr 2 2 [(0,vp k),(1,vi id),(4,vi 0),(5,vp k),(6,vi id)]<|Bs 1 (Xa (some 7) _ ((by have h:=Zkw (row tmE 227 (.slice a s.tm.length c) s.tm::row (kE .i64) 3 (.slice Z.z0.a Z.z0.l.length Z.z0.k) Z.z0.l::row (kE .i64) 3 (.slice Z.z1.a Z.z1.l.length Z.z1.k) Z.z1.l::row (kE .i64) 3 (.slice Z.z2.a Z.z2.l.length Z.z2.k) Z.z2.l::row (kE .i64) 3 (.slice Z.z3.a Z.z3.l.length Z.z3.k) Z.z3.l::H) k t L a c s.tm Z s.mt s.mg (s.nx-1) hwL id;rw[hT.isT hw]at h;exact h))) ?_;cases ht:isT s.N id with
 |false=>
  refine Ae 1 ?_;refine cT<|Xq<|Xg 1<|Be<|Xv (Zab ?_);have e:Zbn s id=(13,s):=by rw[Zbn,if_pos ht]
  refine Y0 (vi 13) (fun w hs=>?_);exact⟨(),by rw[e],by rw[e];exact Sat.closeKt hk hT hZ hs⟩
 |true=>
  have e:=Zox hk ht;have e2:=ZjK hk id;rw[e]at e2;have hf:s.tm.filter (nId id)=Zbi id s.tm:=(ZdP id s.tm hk.tm).symm;have hR:=hT.remove hw id;refine Be<|cF<|Xk<|Xq<|Xg 5<|Br 1 4<|Xh0 ?_ 1 1;refine Xh0 ?_ 2 1;refine Xh0 ?_ 2 1;refine Bx 0 (Xa (some 13) _ ((by have h:=ZeX (rtS t L::row (kE .i64) 3 (.slice Z.z0.a Z.z0.l.length Z.z0.k) Z.z0.l::row (kE .i64) 3 (.slice Z.z1.a Z.z1.l.length Z.z1.k) Z.z1.l::row (kE .i64) 3 (.slice Z.z2.a Z.z2.l.length Z.z2.k) Z.z2.l::row (kE .i64) 3 (.slice Z.z3.a Z.z3.l.length Z.z3.k) Z.z3.l::H) k t c a s.tm Z.z0 Z.z1 Z.z2 Z.z3 s.mt s.mg (s.nx-1) id (by have:=hk.tml;omega);rw[hf]at h;exact h))) fun(q:AN)=>endR<|Xq<|Xg 5<|Br 1 4<|Xh0 ?_ 2 1
  refine Xh0 ?_ 2 1;refine Xh0 ?_ 6 1;refine Xh0 ?_ 6 1;refine Xh0 ?_ 6 1;refine Xh0 ?_ 6 1;refine Xh0 ?_ 6 1;refine Bx 0 (Xa (some 18) _ ((by have h:=Zir (row tmE 227 (.slice q.1 (Zbi id s.tm).length q.2) (Zbi id s.tm)::rtS t L::H) k t q.2 q.1 (Zbi id s.tm) Z s.mt s.mg (s.nx-1) id (by rw[hZ];exact hk.obh);rw[hZ]at h;exact h))) fun(Y:{Y:O4×Bool//Y.1.ob=ZcP s.ob id})=>endR<|Xq<|Xg 6<|Bl 1 5 [(⟨k,0,none⟩,vp t)] (hasC (ba 0) Zaa)<|Bs 0 (Xa (some 24) _ (Zak 6 rfl (ZgZ _ t L hwL id)))<|endR<|Xq<|Xg 1<|Be<|Xv<|PT.pick 4 rfl<|PT.pick 4 rfl<|PT.pick 4 rfl<|PT.pick 4 rfl<|PT.pick 5 rfl<|PT.pick 6 rfl<|PT.pick 6 rfl<|Y0 (vi 0) (fun w hs=>?_)
  exact⟨(),by rw[e],by rw[e];exact Sat.closeKl e2 hR.2 Y.2 rfl hs⟩
theorem Zg5 (H:List SP)(k t:Nat)(L:List Nr)(a:Option Addr)(c:Nat)(Z:O4)(s:KS)(hk:KOk s)(hT:TRel s.N L)(hZ:Z.ob=s.ob)(id un:Int):U0 110 #[vp k,vi id,vi un] (blk k 94 [vp t,.slice a s.tm.length c,vi Z.z0.c,vi Z.z1.c,vi Z.z2.c,vi Z.z3.c,.slice Z.z0.a Z.z0.l.length Z.z0.k,.slice Z.z1.a Z.z1.l.length Z.z1.k,.slice Z.z2.a Z.z2.l.length Z.z2.k,.slice Z.z3.a Z.z3.l.length Z.z3.k,vi s.mt,vi s.mg,vi (s.nx-1)]::rtS t L::row tmE 227 (.slice a s.tm.length c) s.tm::row (kE .i64) 3 (.slice Z.z0.a Z.z0.l.length Z.z0.k) Z.z0.l::row (kE .i64) 3 (.slice Z.z1.a Z.z1.l.length Z.z1.k) Z.z1.l::row (kE .i64) 3 (.slice Z.z2.a Z.z2.l.length Z.z2.k) Z.z2.l::row (kE .i64) 3 (.slice Z.z3.a Z.z3.l.length Z.z3.k) Z.z3.l::H) (vi (ZaY s id un).1) (rkT k t (ZaY s id un).2::H):=by
 have hw:=hk.wf;have hwL:=hT.wf hw;refine eG func110 23 ?_;refine Xq<|Xg 1<|Be<|Xq<|Xq<|Xg 4<|Cr 2 2 [(0,vp k),(1,vi id),(2,vi un),(6,vi 0),(7,vp k),(8,vi id)]<|Bs 1 (Xa (some 9) _ ((by have h:=ZfN (row tmE 227 (.slice a s.tm.length c) s.tm::row (kE .i64) 3 (.slice Z.z0.a Z.z0.l.length Z.z0.k) Z.z0.l::row (kE .i64) 3 (.slice Z.z1.a Z.z1.l.length Z.z1.k) Z.z1.l::row (kE .i64) 3 (.slice Z.z2.a Z.z2.l.length Z.z2.k) Z.z2.l::row (kE .i64) 3 (.slice Z.z3.a Z.z3.l.length Z.z3.k) Z.z3.l::H) k t L a c s.tm Z s.mt s.mg (s.nx-1) hwL id;rw[hT.isR hw]at h;exact h))) ?_;cases ht:isR s.N id with
 |false=>
  refine Ae 1 ?_;refine cT<|Xq<|Xg 1<|Be<|Xv (Zab ?_);have e:=Zk0 (u:=un) ht;refine Y0 (vi 13) (fun w hs=>?_);exact⟨(),by rw[e],by rw[e];exact Sat.closeKt hk hT hZ hs⟩
 |true=>
  have e:=ZmO hk ht un;have e2:=Zht hk id un;rw[e]at e2;have hR:=hT.ready hw id false;refine Be<|cF<|Xk<|Xq<|Xg 6<|Br 1 5<|Xh0 ?_ 1 1;refine Xh0 ?_ 2 1;refine Xh0 ?_ 2 1;refine Bx 0 (Xa (some 16) _ ((Zko (rtS t L::row (kE .i64) 3 (.slice Z.z0.a Z.z0.l.length Z.z0.k) Z.z0.l::row (kE .i64) 3 (.slice Z.z1.a Z.z1.l.length Z.z1.k) Z.z1.l::row (kE .i64) 3 (.slice Z.z2.a Z.z2.l.length Z.z2.k) Z.z2.l::row (kE .i64) 3 (.slice Z.z3.a Z.z3.l.length Z.z3.k) Z.z3.l::H) k t c a s.tm Z.z0 Z.z1 Z.z2 Z.z3 s.mt s.mg (s.nx-1) id un (by have:=hk.tml;omega) hk.tm))) fun(q:AN)=>endR<|Xq<|Xg 6<|Bl 1 5 [(⟨k,0,none⟩,vp t)] (hasC (ba 0) Zaa)<|Bs 0 (Xa (some 22) _ (Zak 2 rfl (ZbF _ t L hwL id false)))<|endR<|Xq<|Xg 1<|Be<|Xv<|PT.pick 1 rfl<|PT.pick 2 rfl<|PT.pick 2 rfl<|Y0 (vi 0) (fun w hs=>?_)
  exact⟨(),by rw[e],by rw[e];exact Sat.closeKl e2 hR.2 hZ rfl hs⟩
theorem ZiA (H:List SP)(k t:Nat)(L:List Nr)(a:Option Addr)(c:Nat)(Z:O4)(s:KS)(hk:KOk s)(hT:TRel s.N L)(hZ:Z.ob=s.ob)(id j:Int):U0 111 #[vp k,vi id,vi j] (blk k 94 [vp t,.slice a s.tm.length c,vi Z.z0.c,vi Z.z1.c,vi Z.z2.c,vi Z.z3.c,.slice Z.z0.a Z.z0.l.length Z.z0.k,.slice Z.z1.a Z.z1.l.length Z.z1.k,.slice Z.z2.a Z.z2.l.length Z.z2.k,.slice Z.z3.a Z.z3.l.length Z.z3.k,vi s.mt,vi s.mg,vi (s.nx-1)]::rtS t L::row tmE 227 (.slice a s.tm.length c) s.tm::row (kE .i64) 3 (.slice Z.z0.a Z.z0.l.length Z.z0.k) Z.z0.l::row (kE .i64) 3 (.slice Z.z1.a Z.z1.l.length Z.z1.k) Z.z1.l::row (kE .i64) 3 (.slice Z.z2.a Z.z2.l.length Z.z2.k) Z.z2.l::row (kE .i64) 3 (.slice Z.z3.a Z.z3.l.length Z.z3.k) Z.z3.l::H) (.tuple #[.bool (ZaJ s id j).1.1,vi (ZaJ s id j).1.2]) (rkT k t (ZaJ s id j).2::H):=by
 have hw:=hk.wf;have hwL:=hT.wf hw;refine eG func111 37 ?_;refine Xq (Xg 2 (Ae 2 ?_));refine Xq (Xq (Xg 4 (Xr [(0,vp k),(1,vi id),(2,vi j),(6,.bool false),(7,vi 0),(10,vp k),(11,vi id)] ?_ 2 2)));refine Xs (Xa (some 12) _ ((by have h:=ZfN (row tmE 227 (.slice a s.tm.length c) s.tm::row (kE .i64) 3 (.slice Z.z0.a Z.z0.l.length Z.z0.k) Z.z0.l::row (kE .i64) 3 (.slice Z.z1.a Z.z1.l.length Z.z1.k) Z.z1.l::row (kE .i64) 3 (.slice Z.z2.a Z.z2.l.length Z.z2.k) Z.z2.l::row (kE .i64) 3 (.slice Z.z3.a Z.z3.l.length Z.z3.k) Z.z3.l::H) k t L a c s.tm Z s.mt s.mg (s.nx-1) hwL id;rw[hT.isR hw]at h;exact h))) (fun _=>?_) 1;cases ht:isR s.N id with
 |false=>
  refine Ae 1 ?_;refine Xc true (fun _=>?_) (fun h=>by cases h);refine Xq (Xg 2 (Ae 2 ?_));refine Xv (Zab ?_);have e:=ZmL (j:=j) ht;refine Y0 (.tuple #[.bool false,vi 13]) (fun w hs=>?_);exact⟨(),by rw[e],by rw[e];exact Sat.closeKt hk hT hZ hs⟩
 | true=>
  have e2:=ZjI hk id j;have hR:=hT.ready hw id false;refine Ae 1 ?_;refine Xc false (fun h=>by cases h) (fun _=>?_);refine Xk (Xq (Xg 11 (Ar ?_ 6 5)));refine Xh0 ?_ 2 6;refine Xh0 ?_ 2 6;refine Xh0 ?_ 6 6;refine Xh0 ?_ 6 6;refine Xh0 ?_ 6 6;refine Xh0 ?_ 6 6;refine Xh0 ?_ 6 6;refine Xs (Xa (some 20) _ ((by have h:=Zip (rtS t L::row tmE 227 (.slice a s.tm.length c) s.tm::H) k t c a s.tm Z s.mt s.mg (s.nx-1) id j (by rw[hZ];exact hk.obh);rw[hZ]at h;exact h))) (fun(Y:{Y:O4//Y.ob=(Zaj s.ob id j).2})=>?_) 5;refine Ae 5 ?_;refine Xq (Xq (Xg 6 (Xr [(0,vp k),(1,vi id),(6,.bool false),(7,vi 0),(8,.bool ((Zaj s.ob id j).1.1)),(9,vi ((Zaj s.ob id j).1.2)),(25,.bool (((Zaj s.ob id j).1.2)==0))] ?_ 3 3)));refine(Xs0 0 3 [(0,vp k),(1,vi id),(6,.bool false),(7,vi 0),(8,.bool ((Zaj s.ob id j).1.1)),(9,vi ((Zaj s.ob id j).1.2)),(28,.bool ((((Zaj s.ob id j).1.2)==0)&& (!((Zaj s.ob id j).1.1))))] ?_ ?_:RT _ _ _ _ _ _ 3 _)
  ·cases hg3:(((Zaj s.ob id j).1.2)==0)with
   |true=>
    refine Ae 3 ?_;exact mA ()
   |false=>
    refine Ae 3 ?_;exact mA ()
  refine endR ?_;refine Xc ((((Zaj s.ob id j).1.2)==0)&& (!((Zaj s.ob id j).1.1))) (fun h1=>?_) (fun h1=>?_)
  ·have h1':(Zaj s.ob id j).1.2=0∧(Zaj s.ob id j).1.1=false:=by simpa using h1
   have e:ZaJ s id j=((false,0),{s with N:=(Zag s.N id false).2,ob:=(Zaj s.ob id j).2}):=by rw[ZaJ,if_neg (by rw[ht];simp),if_neg (by simp[h1'.1,h1'.2]),(Zdd hk.wf.sk (ZmZ ht) false).1]
   rw[e]at e2;refine Xg 6 (Al [(⟨k,0,none⟩,vp t)] (hasC (ba 0) Zaa) ?_ 1 5);refine Xs (Xa (some 34) _ (Zak 5 rfl (ZbF _ t L hwL id false))) (fun _=>?_) 0;refine endR ?_;refine Xq (Xg 4 (Ae 4 ?_));refine Xv ?_;refine PT.pick 4 rfl ?_;refine PT.pick 4 rfl ?_;refine PT.pick 4 rfl ?_;refine PT.pick 4 rfl ?_;refine PT.pick 6 rfl ?_;refine PT.pick 6 rfl ?_;refine PT.pick 6 rfl ?_;refine Y0 (.tuple #[.bool ((Zaj s.ob id j).1.1),vi ((Zaj s.ob id j).1.2)]) (fun w hs=>?_);exact⟨(),by rw[e,h1'.1,h1'.2],by rw[e];exact Sat.closeKl e2 hR.2 Y.2 rfl hs⟩
  ·have h1':(Zaj s.ob id j).1.2≠0∨(Zaj s.ob id j).1.1=true:=by simp only[Bool.and_eq_false_iff]at h1;rcases h1 with h1|h1;exact .inl (by simpa using h1);exact .inr (by simpa using h1)
   have e:ZaJ s id j=((Zaj s.ob id j).1,{s with ob:=(Zaj s.ob id j).2}):=by rw[ZaJ,if_neg (by rw[ht];simp),if_pos h1']
   rw[e]at e2;refine Xk (Xq (Xg 4 (Ae 4 ?_)));refine Xv ?_;refine PT.pick 4 rfl ?_;refine PT.pick 4 rfl ?_;refine PT.pick 4 rfl ?_;refine PT.pick 4 rfl ?_;refine PT.pick 6 rfl ?_;refine PT.pick 6 rfl ?_;refine PT.pick 6 rfl ?_;refine Y0 (.tuple #[.bool ((Zaj s.ob id j).1.1),vi ((Zaj s.ob id j).1.2)]) (fun w hs=>?_);exact⟨(),by rw[e],by rw[e];exact Sat.closeKl e2 hT Y.2 rfl hs⟩
theorem Zgi (H:List SP)(k t:Nat)(L:List Nr)(a:Option Addr)(c:Nat)(Z:O4)(s:KS)(hk:KOk s)(hT:TRel s.N L)(hZ:Z.ob=s.ob)(j:Int):U0 112 #[vp k,vi j] (blk k 94 [vp t,.slice a s.tm.length c,vi Z.z0.c,vi Z.z1.c,vi Z.z2.c,vi Z.z3.c,.slice Z.z0.a Z.z0.l.length Z.z0.k,.slice Z.z1.a Z.z1.l.length Z.z1.k,.slice Z.z2.a Z.z2.l.length Z.z2.k,.slice Z.z3.a Z.z3.l.length Z.z3.k,vi s.mt,vi s.mg,vi (s.nx-1)]::rtS t L::row tmE 227 (.slice a s.tm.length c) s.tm::row (kE .i64) 3 (.slice Z.z0.a Z.z0.l.length Z.z0.k) Z.z0.l::row (kE .i64) 3 (.slice Z.z1.a Z.z1.l.length Z.z1.k) Z.z1.l::row (kE .i64) 3 (.slice Z.z2.a Z.z2.l.length Z.z2.k) Z.z2.l::row (kE .i64) 3 (.slice Z.z3.a Z.z3.l.length Z.z3.k) Z.z3.l::H) (vi (ZaA s j).1) (rkT k t (ZaA s j).2::H):=by
 have hw:=hk.wf;have hwL:=hT.wf hw;refine eG func112 25 ?_;refine Xq<|Xg 1<|Be<|Xq<|Xg 12<|Br 8 4<|Xh0 ?_ 2 8;refine Xh0 ?_ 2 8;refine Xh0 ?_ 6 8;refine Xh0 ?_ 6 8;refine Xh0 ?_ 6 8;refine Xh0 ?_ 6 8;refine Xh0 ?_ 6 8;refine Bx 7 (Xa (some 13) _ ((by have h:=Zks (rtS t L::row tmE 227 (.slice a s.tm.length c) s.tm::H) k t c a s.tm Z s.mt s.mg (s.nx-1) j (by rw[hZ];exact hk.obh);rw[hZ]at h;exact h))) (fun(Y:{Y:O4//Y.ob=(Zay s.ob j).2})=>?_);have e2:=ZfV hk j;refine Be<|Xq (Xq (Xg 1 (Ce [(0,vp k),(4,vi 0),(5,vi ((Zay s.ob j).1.1)),(7,vi ((Zay s.ob j).1.2.2)),(17,.bool ((Zay s.ob j).1.2.1))] ?_)));cases hm:(Zay s.ob j).1.2.1 with
 |true=>
  obtain⟨m1,m2⟩:=Zmq hk hm;have e:ZaA s j=(0,{s with N:=(Zag s.N (Zay s.ob j).1.1 true).2,ob:=(Zay s.ob j).2}):=by rw[ZaA,if_neg (by rw[m1,hm];simp),(Zdd hk.wf.sk m2 true).1]
  rw[e]at e2;have hR:=hT.ready hw (Zay s.ob j).1.1 true;refine cT<|Xg 6<|Bl 1 5 [(⟨k,0,none⟩,vp t)] (hasC (ba 0) Zaa)<|Bs 0 (Xa (some 23) _ (Zak 5 rfl (ZbF _ t L hwL (Zay s.ob j).1.1 true)))<|endR<|Xq<|Xg 2<|Be<|Xv<|PT.pick 4 rfl<|PT.pick 4 rfl<|PT.pick 4 rfl<|PT.pick 4 rfl<|PT.pick 6 rfl<|PT.pick 6 rfl<|PT.pick 6 rfl<|Y0 (vi ((Zay s.ob j).1.2.2)) (fun w hs=>?_);exact⟨(),by rw[e,m1],by rw[e];exact Sat.closeKl e2 hR.2 Y.2 rfl hs⟩
 |false=>
  have e:=Zmp hm;rw[e]at e2;refine cF<|Xk<|Xq<|Xg 2<|Be<|Xv<|PT.pick 4 rfl<|PT.pick 4 rfl<|PT.pick 4 rfl<|PT.pick 4 rfl<|PT.pick 6 rfl<|PT.pick 6 rfl<|PT.pick 6 rfl<|Y0 (vi ((Zay s.ob j).1.2.2)) (fun w hs=>?_);exact⟨(),by rw[e],by rw[e];exact Sat.closeKl e2 hT Y.2 rfl hs⟩
theorem Ziz (H:List SP)(k t:Nat)(L:List Nr)(a:Option Addr)(c:Nat)(Z:O4)(s:KS)(hk:KOk s)(hT:TRel s.N L)(hZ:Z.ob=s.ob)(tk:Int):U1 32 #[vp k,vi tk] (blk k 94 [vp t,.slice a s.tm.length c,vi Z.z0.c,vi Z.z1.c,vi Z.z2.c,vi Z.z3.c,.slice Z.z0.a Z.z0.l.length Z.z0.k,.slice Z.z1.a Z.z1.l.length Z.z1.k,.slice Z.z2.a Z.z2.l.length Z.z2.k,.slice Z.z3.a Z.z3.l.length Z.z3.k,vi s.mt,vi s.mg,vi (s.nx-1)]::rtS t L::row tmE 227 (.slice a s.tm.length c) s.tm::row (kE .i64) 3 (.slice Z.z0.a Z.z0.l.length Z.z0.k) Z.z0.l::row (kE .i64) 3 (.slice Z.z1.a Z.z1.l.length Z.z1.k) Z.z1.l::row (kE .i64) 3 (.slice Z.z2.a Z.z2.l.length Z.z2.k) Z.z2.l::row (kE .i64) 3 (.slice Z.z3.a Z.z3.l.length Z.z3.k) Z.z3.l::H) (ι:=AN) (fun x=> .slice x.1 (ZaZ s tk).1.length x.2) fun x=>row (kE .i64) 3 (.slice x.1 (ZaZ s tk).1.length x.2) (ZaZ s tk).1::rkT k t (ZaZ s tk).2::H:=by
 have hw:=hk.wf;have hwL:=hT.wf hw;have e2:=ZjH hk tk;obtain⟨D,hD⟩:∃D,Zbf tk s.tm=D:=⟨_,rfl⟩
 have hDl:D.length≤60:=by have:=Zdq tk s.tm;have:=hk.tml;rw[hD]at*;omega
 have hkw:ZaZ s tk=(D,{s with N:=ZcE s.N D,tm:=ZaU tk s.tm}):=by rw[ZaZ,hD]
 rw[hkw]at e2 ⊢;refine eG func32 28 ?_;refine Xq<|Xg 1<|Be<|Xq<|Xg 6<|Cr 2 4 [(0,vp k),(4,.slice none 0 0),(9,vq k 1),(10,vi tk)]<|Xh0 ?_ 1 2;refine Xh0 ?_ 2 2;refine Xh0 ?_ 2 2;refine Bx 1 (Xa (some 11) _ ((by have h:=Zkp (rtS t L::row (kE .i64) 3 (.slice Z.z0.a Z.z0.l.length Z.z0.k) Z.z0.l::row (kE .i64) 3 (.slice Z.z1.a Z.z1.l.length Z.z1.k) Z.z1.l::row (kE .i64) 3 (.slice Z.z2.a Z.z2.l.length Z.z2.k) Z.z2.l::row (kE .i64) 3 (.slice Z.z3.a Z.z3.l.length Z.z3.k) Z.z3.l::H) k t c a s.tm Z.z0 Z.z1 Z.z2 Z.z3 s.mt s.mg (s.nx-1) tk (by have:=hk.tml;omega);rw[hD]at h;exact h))) (fun(q:AN×AN)=>?_);obtain⟨⟨qa,qc⟩,⟨ra,rc⟩⟩:=q;dsimp only;refine Be<|Xq<|Xq<|Xg 1<|Be<|Xb 0 (Xp [(0,vp k),(4,.slice none 0 0),(5,.slice qa D.length qc),(6,vi 0)] ?_);refine ZbV (fun(v:List Nr×Nat)=> [(0,vp k),(4,.slice none 0 0),(5,.slice qa D.length qc),(6,vi (v.2:Int))]) (fun(v:List Nr×Nat)=>(row (kE .i64) 3 (.slice qa D.length qc) D::blk k 94 [vp t,.slice ra ((ZaU tk s.tm).length) rc,vi Z.z0.c,vi Z.z1.c,vi Z.z2.c,vi Z.z3.c,.slice Z.z0.a Z.z0.l.length Z.z0.k,.slice Z.z1.a Z.z1.l.length Z.z1.k,.slice Z.z2.a Z.z2.l.length Z.z2.k,.slice Z.z3.a Z.z3.l.length Z.z3.k,vi s.mt,vi s.mg,vi (s.nx-1)]::row tmE 227 (.slice ra (ZaU tk s.tm).length rc) (ZaU tk s.tm)::rtS t v.1::row (kE .i64) 3 (.slice Z.z0.a Z.z0.l.length Z.z0.k) Z.z0.l::row (kE .i64) 3 (.slice Z.z1.a Z.z1.l.length Z.z1.k) Z.z1.l::row (kE .i64) 3 (.slice Z.z2.a Z.z2.l.length Z.z2.k) Z.z2.l::row (kE .i64) 3 (.slice Z.z3.a Z.z3.l.length Z.z3.k) Z.z3.l::H)) (fun k (v:List Nr×Nat)=>k+v.2=D.length∧TRel (ZcE s.N (D.take v.2)) v.1) D.length (L,0) Kr ⟨by simp,hT⟩ ?_;rintro j ⟨M,u⟩ ⟨hku,hI⟩;simp only at hku hI;refine Xq<|Xq<|Xg 4<|Ce [(0,vp k),(4,.slice none 0 0),(5,.slice qa D.length qc),(6,vi u),(15,.bool (decide ((u:Int)< (D.length:Int))))]<|Xc (decide ((u:Int)< (D.length:Int))) (fun h1=>?_) (fun h1=>?_)
 ·have hu:u<D.length:=by have:=of_decide_eq_true h1;omega
  obtain⟨x,hx⟩:∃x,D[u]? =some x:=⟨_,gEe hu⟩
  have htk:ZcE s.N (D.take (u+1))=(Zag (ZcE s.N (D.take u)) x true).2:=by rw[List.take_add_one,hx];exact ZfC _ _ _
  have hwu:=(ZeE (D.take u) hw).1;have hR:=hI.ready hwu x true;rw[←htk]at hR;refine PT.know (KR.isSome (s:=⟨qa,qc,D⟩) (Zad 0 rfl) (List.ne_nil_of_length_pos (by show 0<D.length;omega))) ?_;rintro⟨sb,so,hA⟩;dsimp only at hA;rw[hA];refine Xk<|Xq<|Xb 1<|Xy0 0 [8] 9<|At' [0,1,2,3,4,5] [(⟨k,0,none⟩,vp t)] (hasC (ba 1) Zaa)<|Xu 6 (Xi 42 (.tmp 22) (.tmp 23) sb so D.length qc u 1 3 (u:Int) 24 underlying42)<|At' [7] [(⟨sb,so+u*1,none⟩,vi x)] (hasC (Zac (E:=kE .i64) (xs:=D) 0 rfl (x:=x) hx (j:=0) rfl) Zaa)<|Yo 8 (Xa (some 26) _ (Zak 3 rfl (ZbF _ t M (hI.wf hwu) x true)))<|Xd (Xg 3 (Ce [(0,vp k),(4,.slice none 0 0),(5,.slice (some ⟨sb,so,none⟩) D.length qc),(6,vi (IntKind.i64.wrap ((u:Int)+1)))] ?_));rw[show IntKind.i64.wrap ((u:Int)+1)=((u:Int)+1)by rw[w64 (by omega) (by omega)]];rw[←hA];exact gA (j-1) ((Zag M x true).2,u+1) (by omega) ⟨by simp only;omega,hR.2⟩
 ·have hu:u=D.length:=by have:=of_decide_eq_false h1;omega
  have htk:D.take u=D:=List.take_of_length_le (by omega);rw[htk]at hI;refine Xx 0<|Zao<|Zao<|Zax<|Xq<|Xg 2<|Be<|Xv<|PT.pick 0 rfl<|PT.pick 7 rfl<|PT.pick 7 rfl<|PT.pick 7 rfl<|PT.pick 7 rfl<|PT.pick 6 rfl<|PT.pick 7 rfl<|PT.pick 7 rfl<|Y0 (.slice qa D.length qc) (fun w hs=>?_);exact⟨(qa,qc),rfl,by have h:=Sat.pick 7 rfl hs;exact SatF.swap (Sat.closeKl (H:=row (kE .i64) 3 (.slice qa D.length qc) D::H) e2 hI hZ rfl hs)⟩
theorem Zoj (a:Int):mxI 1 (mnI a 8)=Zh2 a:=by unfold Zh2 mnI mxI;repeat' split<;>omega
theorem Zol (a:Int):mxI 0 (mnI a 4)=Zh3 a:=by unfold Zh3 mnI mxI;repeat' split<;>omega
theorem Zkx (H:List SP)(th gr:Int):U1 63 #[vi th,vi gr] H (ι:=Nat×Nat) (fun k=> .pointer (some ⟨k.1,0,none⟩)) fun k=>rkT k.1 k.2 (k0 (Zh2 th) (Zh3 gr))::H:=by
 have hm:=ZmA th;have hg:=ZmC gr;refine eG func63 26 ?_;refine Xq (Xg 1 (Ae 1 ?_));refine Xq (Xg 10 (Xs (Xa (some 6) _ (Zl8 _)) (fun(t:Nat)=>?_) 9));have hr1:Zb4 [rootN] 0 1 1 true=(0,[rootN,⟨1,0,1,0,true,false,0⟩]):=rfl;have hr2:Zag [rootN,⟨1,0,1,0,true,false,0⟩] 1 true=(0,kn01):=rfl;have hw1:WFN [rootN,⟨1,0,1,0,true,false,0⟩]:=by have:=Zf2 Ze1 0 1 1 true;exact this
 refine Ar ?_ 2 7;refine Xs (Xn 94 [vp t,.slice none 0 0,vi 0,vi 0,vi 0,vi 0,.slice none 0 0,.slice none 0 0,.slice none 0 0,.slice none 0 0,vi (mxI 1 (mnI th 8)),vi (mxI 0 (mnI gr 4)),vi 1] (some 14) (fun b=>vp b)) (fun b1=>?_) 1;refine Ae 1 ?_;refine Xq (Xg 5 (Xl [(4,.pointer none),(5,vp b1),(18,vp t)] [(⟨b1,0,none⟩,vp t)] (hasC (ba 0) Zaa) ?_ 1 4));rw[show(mxI 1 (mnI th 8))=(Zh2 th)by exact Zoj th];rw[show(mxI 0 (mnI gr 4))=(Zh3 gr)by exact Zol gr];refine Xs (Xa (some 19) _ (Zak (H:=(blk b1 94 [.pointer (some ⟨t,0,none⟩),.slice none 0 0,.int .i64 0,.int .i64 0,.int .i64 0,.int .i64 0,.slice none 0 0,.slice none 0 0,.slice none 0 0,.slice none 0 0,.int .i64 (Zh2 th),.int .i64 (Zh3 gr),.int .i64 1]::rtS t [rootN]::H)) 1 rfl (by have h:=fun H'=>Ze4 H' t [rootN] Ze1 0 1 1 true;rw[hr1]at h;exact h _))) (fun _=>?_) 0;refine endR ?_;refine Xq (Xg 5 (Al [(⟨b1,0,none⟩,vp t)] (hasC (ba 0) Zaa) ?_ 1 4));refine Xs (Xa (some 24) _ (Zak (H:=(blk b1 94 [.pointer (some ⟨t,0,none⟩),.slice none 0 0,.int .i64 0,.int .i64 0,.int .i64 0,.int .i64 0,.slice none 0 0,.slice none 0 0,.slice none 0 0,.slice none 0 0,.int .i64 (Zh2 th),.int .i64 (Zh3 gr),.int .i64 1]::rtS t [rootN,⟨1,0,1,0,true,false,0⟩]::H)) 1 rfl (by have h:=fun H'=>ZbF H' t [rootN,⟨1,0,1,0,true,false,0⟩] hw1 1 true;rw[hr2]at h;exact h _))) (fun _=>?_) 0;refine endR ?_;refine Xq (Xg 2 (Ae 2 ?_));refine Xv ?_;refine PT.rowNil (kE .i64) 3 ?_;refine PT.rowNil (kE .i64) 3 ?_;refine PT.rowNil (kE .i64) 3 ?_;refine PT.rowNil (kE .i64) 3 ?_;refine PT.rowNil tmE 227 ?_;refine PT.pick 4 rfl ?_;refine PT.pick 4 rfl ?_;refine PT.pick 4 rfl ?_;refine PT.pick 4 rfl ?_;refine PT.pick 4 rfl ?_;refine PT.pick 6 rfl ?_;refine PT.pick 6 rfl ?_;refine Y0 (vp b1) (fun w hs=>?_);exact⟨(b1,t),rfl,by rw[ZqH hm.1];exact Sat.closeKl (Z:=⟨⟨0,none,0,[]⟩,⟨0,none,0,[]⟩,⟨0,none,0,[]⟩,⟨0,none,0,[]⟩⟩) (by have:=k0_ok hm hg;rw[ZqH hm.1]at this;exact this) (L:=kn01) ⟨.refl _,by simp[kn01]⟩ rfl rfl hs⟩
theorem ZdV (H:List SP)(s t:SV Int)(hk:KR H (kE .i64) s)(hk2:KR H (kE .i64) t)(hl:s.l.length<1000000000)(hl2:t.l.length<1000000000):US 23 #[.slice s.a s.l.length s.c,.slice t.a t.l.length t.c] H (.bool (decide (s.l=t.l))):=by
 refine eG func23 26 ?_;refine Xq<|Xg 1<|Be<|Xq<|Xq<|Xg 5<|Be<|Xc ((s.l.length:Int) !=(t.l.length:Int)) (fun hb=>?_) (fun hb=>?_)
 ·refine Xq<|Xg 1<|Be<|Xv (Zab ?_);have hne:s.l≠t.l:=by intro h0;rw[h0]at hb;simp at hb
  refine Y0 (.bool false) (fun w hs=>?_);exact⟨(),by rw[decide_eq_false hne],hs⟩
 ·have hll:s.l.length=t.l.length:=by simp at hb;omega
  refine Xk<|Xq<|Xq<|Xg 1<|Be<|Xb 0 (Xp [(0,.slice s.a s.l.length s.c),(1,.slice t.a t.l.length t.c),(4,.bool false),(5,vi 0)] (Xl0 (fun(u:Nat)=> [(0,.slice s.a s.l.length s.c),(1,.slice t.a t.l.length t.c),(4,.bool false),(5,vi u)]) (fun k (u:Nat)=>k+u=s.l.length∧s.l.take u=t.l.take u) s.l.length 0 Kr ⟨by omega,rfl⟩ ?_));rintro k u ⟨hku,hsame⟩;have hw:IntKind.i64.wrap ((u:Int)+1)=((u+1:Nat):Int):=by rw[IntKind.wrap_i64];omega
  refine Xq<|Xq<|Xg 4<|Ce [(0,.slice s.a s.l.length s.c),(1,.slice t.a t.l.length t.c),(4,.bool false),(5,vi u),(14,.bool (decide ((u:Int)< (s.l.length:Int))))]<|Xc (decide ((u:Int)< (s.l.length:Int))) (fun h=>?_) (fun h=>?_)
  ·have hu:u<s.l.length:=by have:=of_decide_eq_true h;omega
   have hu2:u<t.l.length:=by omega
   obtain⟨y,hy⟩:∃y,s.l[u]? =some y:=⟨_,by simp[hu];rfl⟩
   obtain⟨z,hz⟩:∃z,t.l[u]? =some z:=⟨_,by simp[hu2];rfl⟩
   have ht:s.l.take (u+1)=s.l.take u++[y]:=by rw[List.take_add_one,hy];rfl
   have ht2:t.l.take (u+1)=t.l.take u++[z]:=by rw[List.take_add_one,hz];rfl
   refine PT.know ((hk).isSome (List.ne_nil_of_length_pos (by omega))) ?_;rintro⟨sb,so,hA⟩
   try rw[hA]
   refine PT.know ((hk2).isSome (List.ne_nil_of_length_pos (by omega))) ?_;rintro⟨tb,to_,hB⟩
   try rw[hB]
   refine Xk<|Xq<|Xb 1<|Xq<|Xy0 0 [] 9<|At' [0,1,4,5] [] Zaa<|Xu 2 (Xi 42 (.tmp 17) (.tmp 18) sb so s.l.length s.c u 1 3 (u:Int) 19 underlying42)<|At' [3] [(⟨sb,so+u*1,none⟩,vi y)] (hasC (hk.cell hA (i:=u) (x:=y) hy (j:=0) rfl) Zaa)<|Xu 6 (Xi 42 (.tmp 21) (.tmp 22) tb to_ t.l.length t.c u 1 3 (u:Int) 23 underlying42)<|Xt [7,8] [(0,.slice (some ⟨sb,so,none⟩) s.l.length s.c),(1,.slice (some ⟨tb,to_,none⟩) t.l.length t.c),(4,.bool false),(5,vi u),(25,.bool (y !=z))] [(⟨tb,to_+u*1,none⟩,vi z)] (hasC (hk2.cell hB (i:=u) (x:=z) hz (j:=0) rfl) Zaa)<|Xd ?_
   try rw[←hB]
   try rw[←hA]
   refine Xc (y !=z) (fun h2=>?_) (fun h2=>?_)
   ·refine Xq<|Xg 1<|Be<|Xv (Zae (Zab (Zab (Zae (Zab ?_)))));have hne:s.l≠t.l:=by intro h0;rw[h0,hz]at hy;cases hy;simp at h2
    refine Y0 (.bool false) (fun w hs=>?_);exact⟨(),by rw[decide_eq_false hne],hs⟩
   ·refine Xk (Xg 3 (Be ?_));have hyz:y=z:=by simpa using h2
    refine Xp [(0,.slice s.a s.l.length s.c),(1,.slice t.a t.l.length t.c),(4,.bool false),(5,vi (IntKind.i64.wrap ((u:Int)+1)))] ?_;exact Za3 (k-1) (u+1) (by rw[hw]) rfl (by omega) ⟨by omega,by rw[ht,ht2,hsame,hyz]⟩
  ·have hu:u=s.l.length:=by have:=of_decide_eq_false h;omega
   rw[hu,List.take_length,hll,List.take_length]at hsame;exact Xx 0<|Zao<|Zao<|Zax<|Xq<|Xg 1<|Be<|Xv (Y0 (.bool true) fun w hs=>⟨(),by rw[decide_eq_true hsame],hs⟩)
section
variable (H :List SP)(k t:Nat)(s:KS)
theorem Zqa {P:Ending→World→Prop}{f:FuncId}{vs:Array Value}(h:∀(L:List Nr) (a:Option Addr) (c:Nat) (Z:O4),KOk s→TRel s.N L→Z.ob=s.ob→∀w,Sat w (blk k 94 [vp t,.slice a s.tm.length c,vi Z.z0.c,vi Z.z1.c,vi Z.z2.c,vi Z.z3.c,.slice Z.z0.a Z.z0.l.length Z.z0.k,.slice Z.z1.a Z.z1.l.length Z.z1.k,.slice Z.z2.a Z.z2.l.length Z.z2.k,.slice Z.z3.a Z.z3.l.length Z.z3.k,vi s.mt,vi s.mg,vi (s.nx-1)]::rtS t L::row tmE 227 (.slice a s.tm.length c) s.tm::row (kE .i64) 3 (.slice Z.z0.a Z.z0.l.length Z.z0.k) Z.z0.l::row (kE .i64) 3 (.slice Z.z1.a Z.z1.l.length Z.z1.k) Z.z1.l::row (kE .i64) 3 (.slice Z.z2.a Z.z2.l.length Z.z2.k) Z.z2.l::row (kE .i64) 3 (.slice Z.z3.a Z.z3.l.length Z.z3.k) Z.z3.l::H)→Calls Tryz.prog f vs w P):∀w,Sat w (rkT k t s::H)→Calls Tryz.prog f vs w P:=fun w hs=>by
 obtain⟨L,a,c,Z,h1,h2,h3,hs2⟩:=Sat.openKt hs;exact h L a c Z h1 h2 h3 w hs2
theorem Zp8 (hid:s.nx≤1099511627776)(par wt:Int):U0 107 #[vp k,vi par,vi wt] (rkT k t s::H) (.tuple #[vi (Zau s par wt).1.1,vi (Zau s par wt).1.2]) (rkT k t (Zau s par wt).2::H):=
 Zqa H k t s fun L a c Z h1 h2 h3=>Zg4 H k t L a c Z s h1 h2 h3 hid par wt
theorem Zqb (hid:s.nx≤1099511627776)(par wt:Int):U0 108 #[vp k,vi par,vi wt] (rkT k t s::H) (.tuple #[vi (ZaC s par wt).1.1,vi (ZaC s par wt).1.2]) (rkT k t (ZaC s par wt).2::H):=
 Zqa H k t s fun L a c Z h1 h2 h3=>Zg6 H k t L a c Z s h1 h2 h3 hid par wt
theorem Zry (id:Int):U0 109 #[vp k,vi id] (rkT k t s::H) (vi (Zbn s id).1) (rkT k t (Zbn s id).2::H):=
 Zqa H k t s fun L a c Z h1 h2 h3=>ZiB H k t L a c Z s h1 h2 h3 id
theorem Zp9 (id u:Int):U0 110 #[vp k,vi id,vi u] (rkT k t s::H) (vi (ZaY s id u).1) (rkT k t (ZaY s id u).2::H):=
 Zqa H k t s fun L a c Z h1 h2 h3=>Zg5 H k t L a c Z s h1 h2 h3 id u
theorem Zrw (id j:Int):U0 111 #[vp k,vi id,vi j] (rkT k t s::H) (.tuple #[.bool (ZaJ s id j).1.1,vi (ZaJ s id j).1.2]) (rkT k t (ZaJ s id j).2::H):=
 Zqa H k t s fun L a c Z h1 h2 h3=>ZiA H k t L a c Z s h1 h2 h3 id j
theorem Zn9 (j:Int):U0 112 #[vp k,vi j] (rkT k t s::H) (vi (ZaA s j).1) (rkT k t (ZaA s j).2::H):=
 Zqa H k t s fun L a c Z h1 h2 h3=>Zgi H k t L a c Z s h1 h2 h3 j
theorem Zrv (tk:Int):U1 32 #[vp k,vi tk] (rkT k t s::H) (ι:=AN) (fun x=> .slice x.1 (ZaZ s tk).1.length x.2) fun x=>row (kE .i64) 3 (.slice x.1 (ZaZ s tk).1.length x.2) (ZaZ s tk).1::rkT k t (ZaZ s tk).2::H:=
 Zqa H k t s fun L a c Z h1 h2 h3=>Ziz H k t L a c Z s h1 h2 h3 tk
end
theorem PT.openKt {n:Nat}{X:List (Nat×Value)}{k t:Nat}{s:KS}{H:List SP}{Φ:Act→World→Prop}(h:∀(L:List Nr) (a:Option Addr) (c:Nat) (Z:O4),KOk s→TRel s.N L→Z.ob=s.ob→PT n X (blk k 94 [.pointer (some ⟨t,0,none⟩),.slice a s.tm.length c,.int .i64 Z.z0.c,.int .i64 Z.z1.c,.int .i64 Z.z2.c,.int .i64 Z.z3.c,.slice Z.z0.a Z.z0.l.length Z.z0.k,.slice Z.z1.a Z.z1.l.length Z.z1.k,.slice Z.z2.a Z.z2.l.length Z.z2.k,.slice Z.z3.a Z.z3.l.length Z.z3.k,.int .i64 s.mt,.int .i64 s.mg,.int .i64 (s.nx-1)]::rtS t L::row tmE 227 (.slice a s.tm.length c) s.tm::row (kE .i64) 3 (.slice Z.z0.a Z.z0.l.length Z.z0.k) Z.z0.l::row (kE .i64) 3 (.slice Z.z1.a Z.z1.l.length Z.z1.k) Z.z1.l::row (kE .i64) 3 (.slice Z.z2.a Z.z2.l.length Z.z2.k) Z.z2.l::row (kE .i64) 3 (.slice Z.z3.a Z.z3.l.length Z.z3.k) Z.z3.l::H) Φ):PT n X (rkT k t s::H) Φ:=fun rest w ho hs=>by
 obtain⟨L,a,c,Z,h1,h2,h3,hs⟩:=Sat.openKt hs;exact h L a c Z h1 h2 h3 rest w ho hs
theorem PT.closeKt {n:Nat}{X:List (Nat×Value)}{k t:Nat}{L:List Nr}{a:Option Addr}{c:Nat}{Z:O4}{s:KS}{H:List SP}{Φ:Act→World→Prop}(h1:KOk s)(h2:TRel s.N L)(h3:Z.ob=s.ob)(h:PT n X (rkT k t s::H) Φ):PT n X (blk k 94 [.pointer (some ⟨t,0,none⟩),.slice a s.tm.length c,.int .i64 Z.z0.c,.int .i64 Z.z1.c,.int .i64 Z.z2.c,.int .i64 Z.z3.c,.slice Z.z0.a Z.z0.l.length Z.z0.k,.slice Z.z1.a Z.z1.l.length Z.z1.k,.slice Z.z2.a Z.z2.l.length Z.z2.k,.slice Z.z3.a Z.z3.l.length Z.z3.k,.int .i64 s.mt,.int .i64 s.mg,.int .i64 (s.nx-1)]::rtS t L::row tmE 227 (.slice a s.tm.length c) s.tm::row (kE .i64) 3 (.slice Z.z0.a Z.z0.l.length Z.z0.k) Z.z0.l::row (kE .i64) 3 (.slice Z.z1.a Z.z1.l.length Z.z1.k) Z.z1.l::row (kE .i64) 3 (.slice Z.z2.a Z.z2.l.length Z.z2.k) Z.z2.l::row (kE .i64) 3 (.slice Z.z3.a Z.z3.l.length Z.z3.k) Z.z3.l::H) Φ:=PT.sat (fun _ hs=>Sat.closeKt h1 h2 h3 hs) h
theorem Zn3 (H:List SP)(t:Nat)(L:List Nr)(hl:L.length≤1000)(hne:L≠ []):U1 38 #[vp t] (rtS t L::H) (ι:=AN) (fun x=> .slice x.1 L.length x.2) fun x=>row nE 147 (.slice x.1 L.length x.2) L::rtS t L::H:=fun w hs=>by
 obtain⟨b,o,c,hs⟩:=Sat.openRt hs;refine(Zis H t b o c L hl w hs).mono fun e w' ⟨x,he,hx⟩=>⟨x,he,?_⟩
 exact Sat.perm (List.Perm.swap _ _ _) (Sat.closeRt hne (Sat.perm ((List.Perm.swap _ _ _).trans ((List.Perm.swap _ _ _).cons _)) hx))
section
variable {a b c d e f g P Q:SP}{H:List SP}{w:World}
end
section
variable (H :List SP)(k t:Nat)(s:KS)
theorem Zrx :U0 34 #[vp t] (rkT k t s::H) (.tuple #[vi (ZaP s).1.1,.bool (ZaP s).1.2]) (rkT k t (ZaP s).2::H):=fun w hs=>by
 obtain⟨L,a,c,Z,h1,h2,h3,hs2⟩:=Sat.openKt hs;obtain⟨r1,r2⟩:=h2.run h1.wf;have h:=Zak (H:=blk k 94 [.pointer (some ⟨t,0,none⟩),.slice a s.tm.length c,.int .i64 Z.z0.c,.int .i64 Z.z1.c,.int .i64 Z.z2.c,.int .i64 Z.z3.c,.slice Z.z0.a Z.z0.l.length Z.z0.k,.slice Z.z1.a Z.z1.l.length Z.z1.k,.slice Z.z2.a Z.z2.l.length Z.z2.k,.slice Z.z3.a Z.z3.l.length Z.z3.k,.int .i64 s.mt,.int .i64 s.mg,.int .i64 (s.nx-1)]::rtS t L::row tmE 227 (.slice a s.tm.length c) s.tm::row (kE .i64) 3 (.slice Z.z0.a Z.z0.l.length Z.z0.k) Z.z0.l::row (kE .i64) 3 (.slice Z.z1.a Z.z1.l.length Z.z1.k) Z.z1.l::row (kE .i64) 3 (.slice Z.z2.a Z.z2.l.length Z.z2.k) Z.z2.l::row (kE .i64) 3 (.slice Z.z3.a Z.z3.l.length Z.z3.k) Z.z3.l::H) 1 rfl (Zl4 _ t L (h2.wf h1.wf) h2.srt) w hs2;rw[←r1]at h;exact h.mono fun e w' ⟨_,he,hx⟩=>⟨(),he,Sat.closeKt (ZmQ h1) r2 h3 hx⟩
theorem Zmc (id W:Int):U0 113 #[vp t,vi id,vi W] (rkT k t s::H) (vi (Za9 s id W).1) (rkT k t (Za9 s id W).2::H):=fun w hs=>by
 obtain⟨L,a,c,Z,h1,h2,h3,hs2⟩:=Sat.openKt hs;obtain⟨r1,r2⟩:=h2.weight h1.wf id W;have h:=Zak (H:=blk k 94 [.pointer (some ⟨t,0,none⟩),.slice a s.tm.length c,.int .i64 Z.z0.c,.int .i64 Z.z1.c,.int .i64 Z.z2.c,.int .i64 Z.z3.c,.slice Z.z0.a Z.z0.l.length Z.z0.k,.slice Z.z1.a Z.z1.l.length Z.z1.k,.slice Z.z2.a Z.z2.l.length Z.z2.k,.slice Z.z3.a Z.z3.l.length Z.z3.k,.int .i64 s.mt,.int .i64 s.mg,.int .i64 (s.nx-1)]::rtS t L::row tmE 227 (.slice a s.tm.length c) s.tm::row (kE .i64) 3 (.slice Z.z0.a Z.z0.l.length Z.z0.k) Z.z0.l::row (kE .i64) 3 (.slice Z.z1.a Z.z1.l.length Z.z1.k) Z.z1.l::row (kE .i64) 3 (.slice Z.z2.a Z.z2.l.length Z.z2.k) Z.z2.l::row (kE .i64) 3 (.slice Z.z3.a Z.z3.l.length Z.z3.k) Z.z3.l::H) 1 rfl (ZgV _ t L (h2.wf h1.wf) id W) w hs2;rw[←r1]at h;exact h.mono fun e w' ⟨_,he,hx⟩=>⟨(),he,Sat.closeKt (ZfU h1 id W) r2 h3 hx⟩
theorem Zn8 :U1 38 #[vp t] (rkT k t s::H) (ι:=AN) (fun x=> .slice x.1 (Zaw s.N).length x.2) fun x=>row nE 147 (.slice x.1 (Zaw s.N).length x.2) (Zaw s.N)::rkT k t s::H:=fun w hs=>by
 obtain⟨L,a,c,Z,h1,h2,h3,hs2⟩:=Sat.openKt hs;have hN:=h2.nodes h1.wf;have hl:=(h2.wf h1.wf).sk.len;have hne:L≠ []:=by obtain⟨r,hr,_⟩:=(h2.wf h1.wf).sk.root;exact List.ne_nil_of_mem hr
 rw[hN];refine(Zn3 _ t L (by omega) hne w (SatF.swap hs2)).mono fun e w' ⟨x,he,hx⟩=>⟨x,he,?_⟩
 exact SatF.swap (Sat.closeKt (L:=L) (a:=a) (c:=c) (Z:=Z) h1 h2 h3 (Sat.pick 7 rfl (Sat.pick 6 rfl (Sat.pick 7 rfl (Sat.pick 7 rfl (Sat.pick 7 rfl (Sat.pick 7 rfl (Sat.pick 7 rfl (hx)))))))))
theorem Zjz (j:Nat){H:List SP}{k t:Nat}{s:KS}(hj:H[j]? =some (rkT k t s)):∀w,Sat w H→w.cell? ⟨k,0,none⟩=some (.pointer (some ⟨t,0,none⟩)):=fun w hs=>by
 obtain⟨L,a,c,Z,h1,h2,h3,hs2⟩:=Sat.openKt (Sat.pick j hj hs);exact ZaS (H:=_::_) 0 rfl rfl w hs2
end
structure RdP where
 k:Nat
 t:Nat
 r:Nat
 x:Nat
 s:Nat
structure RWP where
 l:Nat
 t:Nat
 ka:Option Addr
 kn:Nat
 ra:Option Addr
 rn:Nat
 ba:Option Addr
 bn:Nat
 pa:Option Addr
 pn:Nat
 sa:Option Addr
 sn:Nat
 s:List RdP
def ZnR :Enc (Nat×Nat):=⟨1,by decide,fun b=> [.slice (some ⟨b.1,0,none⟩) b.2 b.2],fun _=>rfl,by intro a u hu;simp at hu;subst hu;rfl⟩
def SdR (x:SdS)(y:DomV):Prop:=x.read.length=6∧(0≤x.left∧x.left≤8)∧x.all=sends y.sends
def RwOk (c:ConfV)(P:RWP)(w:WS):Prop:=(P.s.length=w.s.length∧w.s.length=c.domains.l.length∧w.s.length≤6)∧∀(i:Nat) (x:SdS) (y:DomV),w.s[i]? =some x→c.domains.l[i]? =some y→SdR x y
def Zkq (n:Nat)(p:RdP)(x:SdS):List SP:=[rkT p.k p.t x.k,Zjw p.r x.r,ZkI p.x x.b,row (kE .i64) 3 (.slice (some ⟨p.s,0,none⟩) n n) (x.read.take n)]
def ZnC (n:Nat)(p:RdP)(x:SdS):SP:=Zaz (Zkq n p x)
def ZbO (n:Nat)(P:List RdP)(s:List SdS):List SP:=List.zipWith (ZnC n) P s
def rwC (c:ConfV)(P:RWP):List Value:=[.int .i64 c.frame,.int .i64 c.epoch,.slice c.plans.a c.plans.l.length c.plans.c,.slice c.domains.a c.domains.l.length c.domains.c,.slice P.ka P.s.length P.kn,.slice P.ra P.s.length P.rn,.slice P.ba P.s.length P.bn,.slice P.pa P.s.length P.pn,.slice P.sa P.s.length P.sn,.pointer (some ⟨P.l,0,none⟩),.pointer (some ⟨P.t,0,none⟩)]
def rwL (wb:Nat)(c:ConfV)(P:RWP)(w:WS):List SP:=[blk wb 82 (rwC c P),row bpE 75 (.slice P.ka P.s.length P.kn) (P.s.map (·.k)),row bpE 97 (.slice P.ra P.s.length P.rn) (P.s.map (·.r)),row bpE 155 (.slice P.ba P.s.length P.bn) (P.s.map (·.x)),row (kE .i64) 3 (.slice P.pa P.s.length P.pn) (w.s.map (·.left)),row ZnR 42 (.slice P.sa P.s.length P.sn) (P.s.map fun p=>(p.s,c.domains.l.length)),Zjx P.l w.l,Ziv P.t c w.t,Zaz (ZbO c.domains.l.length P.s w.s),Zcl (RwOk c P w)]
def rwS (wb:Nat)(c:ConfV)(P:RWP)(w:WS):SP:=Zaz (rwL wb c P w)
theorem Zl3 {n:Nat}{P:List RdP}{s:List SdS}{d:Nat}{p:RdP}(hp:P[d]? =some p)(x:SdS):(ZbO n P s).set d (ZnC n p x)=ZbO n P (s.set d x):=by
 unfold ZbO;apply List.ext_getElem?;intro i;rw[List.getElem?_set,List.getElem?_zipWith,List.getElem?_zipWith,List.getElem?_set];by_cases c:d=i
 ·subst c
  rw[if_pos rfl,if_pos rfl,hp,List.length_zipWith];have:=(gSs hp).1;by_cases c2:d<s.length
  ·rw[if_pos (by omega),if_pos c2]
  ·rw[if_neg (by omega),if_neg c2]
 ·rw[if_neg c,if_neg c]
theorem ZgX {n:Nat}{P:List RdP}{s:List SdS}{d:Nat}{p:RdP}{x:SdS}(hp:P[d]? =some p)(hx:s[d]? =some x):(ZbO n P s)[d]? =some (ZnC n p x):=by
 unfold ZbO;rw[List.getElem?_zipWith,hp,hx]
theorem RwOk.up {c:ConfV}{P:RWP}{w:WS}{d:Nat}{x x':SdS}(h:RwOk c P w)(hx:w.s[d]? =some x)(h1:∀y,SdR x y→SdR x' y):RwOk c P (wUp w d x'):=by
 have hd:=(gSs hx).1;refine⟨by simp only[wUp,List.length_set];exact h.1,fun i z y hz hy=>?_⟩;by_cases e:d=i
 ·subst e
  rw[show(wUp w d x').s[d]? =some x' from List.getElem?_set_self hd]at hz;cases hz;exact h1 y (h.2 d x y hx hy)
 ·rw[show(wUp w d x').s[i]? =w.s[i]? from List.getElem?_set_ne e]at hz
  exact h.2 i z y hz hy
theorem ZnH {w:WS}{d:Nat}{x:SdS}(hx:w.s[d]? =some x)(x':SdS):wUp (wUp w d x') d x=w:=by
 obtain⟨h1,h2⟩:=gSs hx;show WS.mk ((w.s.set d x').set d x) w.l w.t=w;rw[List.set_set,←h2,List.set_getElem_self]
theorem Zid {w:WS}{d:Nat}{x:SdS}(hx:w.s[d]? =some x)(x':SdS):(wUp w d x').s[d]? =some x':=by
 show(w.s.set d x')[d]? =some x';rw[List.getElem?_set_self (gSs hx).1]
theorem Zqt {w:WS}{d:Nat}{x x':SdS}(hx:w.s[d]? =some x)(h:x'.left=x.left):(wUp w d x').s.map (·.left)=w.s.map (·.left):=by
 show(w.s.set d x').map (·.left)=_;rw[List.map_set,h];apply List.ext_getElem?;intro i;rw[List.getElem?_set];split
 ·rename_i e
  subst e;simp only[List.length_map,List.getElem?_map,hx,Option.map_some];rw[if_pos (gSs hx).1]
 ·rfl
theorem Step.lens {S A S' B:SP}{C:SP→SP}{n:Nat}{L:List (Nat×Value)}{H:List SP}{Q:Program}{c:Code}{i:Nat}(hl:Lens S A C)(hB:C B=S')(h:∀R:List SP,Step (ι:=Unit) Q n L (A::(R++H)) c i none (fun _=>undef) (fun _=>B::(R++H))):Step (ι:=Unit) Q n L (S::H) c i none (fun _=>undef) (fun _=>S'::H):=by
 obtain⟨R,h1,h2⟩:=hl;refine⟨(h R).1,(h R).2.1,fun rest w ho hs K Z hK=>(h R).2.2 rest w ho (h1 H w hs) K Z fun x w' hs'=>hK x w' ?_⟩;rw[←hB];exact h2 B [] H w' hs'
section
variable {wb :Nat}{c:ConfV}{P:RWP}{w:WS}{d:Nat}{p:RdP}{x:SdS}
theorem Zew (hp:P.s[d]? =some p)(hx:w.s[d]? =some x):Lens (rwS wb c P w) (ZnC c.domains.l.length p x) (fun B=>Zaz ((rwL wb c P w).set 8 (Zaz ((ZbO c.domains.l.length P.s w.s).set d B)))):=
 (Zam (l:=rwL wb c P w) 8 rfl).comp (Zam d (ZgX hp hx))
theorem ZcG (hp:P.s[d]? =some p)(hx:w.s[d]? =some x){y:SdS}(h:y.left=x.left∧y.all=x.all∧y.read.length=x.read.length):Zaz ((rwL wb c P w).set 8 (Zaz ((ZbO c.domains.l.length P.s w.s).set d (ZnC c.domains.l.length p y))))=rwS wb c P (wUp w d y):=by
 have e1:RwOk c P (wUp w d y)=RwOk c P w:=propext ⟨fun h1=>by
  have:=h1.up (Zid hx y) (x':=x) fun z hz=>⟨by rw[←h.2.2];exact hz.1,by rw[←h.1];exact hz.2.1,by rw[←h.2.1];exact hz.2.2⟩
  rwa[ZnH hx]at this,fun h1=>h1.up hx fun z hz=>⟨by rw[h.2.2];exact hz.1,by rw[h.1];exact hz.2.1,by rw[h.2.1];exact hz.2.2⟩⟩
 have e2:=Zqt (w:=w) hx h.1;rw[Zl3 hp y];show Zaz _=Zaz _;congr 1;simp only[rwL,e1,e2];rfl
theorem Zgf {ι:Type}{Q:Program}{f:FuncId}{vs:Array Value}{rv:ι→Value}{X:ι→List SP}{k':ι→KS}(hp:P.s[d]? =some p)(hx:w.s[d]? =some x)(h:∀(H:List SP) (v:World),Sat v (rkT p.k p.t x.k::H)→Calls Q f vs v (Ret rv fun y=>X y++rkT p.k p.t (k' y)::H))(H:List SP):
  ∀v,Sat v (rwS wb c P w::H)→Calls Q f vs v (Ret rv fun y=>X y++rwS wb c P (wUp w d {x with k:=k' y})::H):=fun v hs=>
 (((Zew hp hx).comp (Zam (l:=Zkq c.domains.l.length p x) 0 rfl)).call h H v hs).mono fun e v' ⟨y,he,hv⟩=>⟨y,he,by show Sat v' (X y++rwS wb c P (wUp w d _)::H);rw[←ZcG (y:={x with k:=k' y}) hp hx ⟨rfl,rfl,rfl⟩];exact hv⟩
theorem Zpc {ι:Type}{Q:Program}{f:FuncId}{vs:Array Value}{rv:ι→Value}{X:ι→List SP}{k':ι→RgS}(hp:P.s[d]? =some p)(hx:w.s[d]? =some x)(h:∀(H:List SP) (v:World),Sat v (Zjw p.r x.r::H)→Calls Q f vs v (Ret rv fun y=>X y++Zjw p.r (k' y)::H))(H:List SP):
  ∀v,Sat v (rwS wb c P w::H)→Calls Q f vs v (Ret rv fun y=>X y++rwS wb c P (wUp w d {x with r:=k' y})::H):=fun v hs=>
 (((Zew hp hx).comp (Zam (l:=Zkq c.domains.l.length p x) 1 rfl)).call h H v hs).mono fun e v' ⟨y,he,hv⟩=>⟨y,he,by show Sat v' (X y++rwS wb c P (wUp w d _)::H);rw[←ZcG (y:={x with r:=k' y}) hp hx ⟨rfl,rfl,rfl⟩];exact hv⟩
theorem Zrr {ι:Type}{Q:Program}{f:FuncId}{vs:Array Value}{rv:ι→Value}{X:ι→List SP}{k':ι→BxS}(hp:P.s[d]? =some p)(hx:w.s[d]? =some x)(h:∀(H:List SP) (v:World),Sat v (ZkI p.x x.b::H)→Calls Q f vs v (Ret rv fun y=>X y++ZkI p.x (k' y)::H))(H:List SP):
  ∀v,Sat v (rwS wb c P w::H)→Calls Q f vs v (Ret rv fun y=>X y++rwS wb c P (wUp w d {x with b:=k' y})::H):=fun v hs=>
 (((Zew hp hx).comp (Zam (l:=Zkq c.domains.l.length p x) 2 rfl)).call h H v hs).mono fun e v' ⟨y,he,hv⟩=>⟨y,he,by show Sat v' (X y++rwS wb c P (wUp w d _)::H);rw[←ZcG (y:={x with b:=k' y}) hp hx ⟨rfl,rfl,rfl⟩];exact hv⟩
theorem Zp1 {ι:Type}{Q:Program}{f:FuncId}{vs:Array Value}{rv:ι→Value}{l':ι→List Acc}(h:∀(H:List SP) (v:World),Sat v (Zjx P.l w.l::H)→Calls Q f vs v (Ret rv fun y=>Zjx P.l (l' y)::H))(H:List SP):
  ∀v,Sat v (rwS wb c P w::H)→Calls Q f vs v (Ret rv fun y=>rwS wb c P {w with l:=l' y}::H):=fun v hs=>
 ((Zam (l:=rwL wb c P w) 6 rfl).call (X:=fun _=> []) h H v hs).mono fun e v' ⟨y,he,hv⟩=>⟨y,he,hv⟩
theorem Zp2 {ι:Type}{Q:Program}{f:FuncId}{vs:Array Value}{rv:ι→Value}{X:ι→List SP}{t':ι→LtS}{H:List SP}(h:∀(R:List SP) (v:World),Sat v (Ziv P.t c w.t::(R++H))→Calls Q f vs v (Ret rv fun y=>X y++Ziv P.t c (t' y)::(R++H))):
  ∀v,Sat v (rwS wb c P w::H)→Calls Q f vs v (Ret rv fun y=>X y++rwS wb c P {w with t:=t' y}::H):=fun v hs=>
 ((Zam (l:=rwL wb c P w) 7 rfl).callH h v hs).mono fun e v' ⟨y,he,hv⟩=>⟨y,he,hv⟩
theorem Zil (hx:w.s[d]? =some x)(hok:RwOk c P w){v:Int}(hv:0≤v∧v≤8):Zaz ((rwL wb c P w).set 4 (row (kE .i64) 3 (.slice P.pa P.s.length P.pn) ((w.s.map (·.left)).set d v)))=rwS wb c P (wUp w d {x with left:=v}):=by
 have e1:RwOk c P (wUp w d {x with left:=v})=RwOk c P w:=propext ⟨fun _=>hok,fun h1=>h1.up hx fun z hz=>⟨hz.1,hv,hz.2.2⟩⟩;have e2:(wUp w d {x with left:=v}).s.map (·.left)=(w.s.map (·.left)).set d v:=by show(w.s.set d _).map _=_;rw[List.map_set]
 have e3:ZbO c.domains.l.length P.s (wUp w d {x with left:=v}).s=ZbO c.domains.l.length P.s w.s:=by
  unfold ZbO;apply List.ext_getElem?;intro i;rw[List.getElem?_zipWith,List.getElem?_zipWith];by_cases e:d=i
  ·subst e
   rw[Zid hx,hx];cases P.s[d]? <;>rfl
  ·rw[show(wUp w d {x with left:=v}).s[i]? =w.s[i]? from List.getElem?_set_ne e]
 show Zaz _=Zaz _;congr 1;simp only[rwL,e1,e2,e3];rfl
theorem Zju (hx:w.s[d]? =some x)(hok:RwOk c P w){sb so:Nat}(hA:P.pa=some ⟨sb,so,none⟩){v:Int}(hv:0≤v∧v≤8):Zaz ((rwL wb c P w).set 4 (row (kE .i64) 3 (.slice (some ⟨sb,so,none⟩) P.s.length P.pn) ((w.s.map (·.left)).set d v)))=rwS wb c P (wUp w d {x with left:=v}):=by rw[←hA];exact Zil hx hok hv
theorem Zkn (n i:Nat)(v:Int):Zaz ((Zkq n p x).set 3 (row (kE .i64) 3 (.slice (some ⟨p.s,0,none⟩) n n) ((x.read.take n).set i v)))=ZnC n p {x with read:=x.read.set i v}:=by
 show Zaz _=Zaz _;congr 1;simp only[Zkq,List.set_cons_succ,List.set_cons_zero,List.take_set]
theorem ZgW (j:Nat){H:List SP}(hj:H[j]? =some (rwS wb c P w)):∀v,Sat v H→RwOk c P w:=
 (Zam (l:=rwL wb c P w) 9 rfl).here (fun H v hs=>(Sat.openPure hs).1) j hj
theorem ZlY (j:Nat){H:List SP}(hp:P.s[d]? =some p)(hx:w.s[d]? =some x)(hj:H[j]? =some (rwS wb c P w)):∀v,Sat v H→KOk x.k:=
 ((Zew hp hx).comp (Zam (l:=Zkq c.domains.l.length p x) 0 rfl)).here (fun H v hs=>by obtain⟨L,a,k,Z,h1,_⟩:=Sat.openKt hs;exact h1) j hj
theorem ZpY (j:Nat){H:List SP}(hp:P.s[d]? =some p)(hx:w.s[d]? =some x)(hj:H[j]? =some (rwS wb c P w)):∀v,Sat v H→v.cell? ⟨p.k,0,none⟩=some (.pointer (some ⟨p.t,0,none⟩)):=
 ((Zew hp hx).comp (Zam (l:=Zkq c.domains.l.length p x) 0 rfl)).here (fun H v hs=>Zjz (H:=_::H) 0 rfl v hs) j hj
theorem ZaE (j:Nat){H:List SP}{i:Nat}{u:Value}(hj:H[j]? =some (rwS wb c P w))(hu:(rwC c P)[i]? =some u):∀v,Sat v H→v.cell? ⟨wb,i,none⟩=some u:=
 (Zam (l:=rwL wb c P w) 0 rfl).here (fun H v hs=>ZaS (H:=_::H) 0 rfl (j:=i) hu v hs) j hj
theorem Zcz {α:Type}{E:Enc α}{T:TypeId}(i:Nat){A:Option Addr}{m k:Nat}{xs:List α}(hi:(rwL wb c P w)[i]? =some (row E T (.slice A m k) xs))(hm:m=xs.length)(j:Nat){H:List SP}(hj:H[j]? =some (rwS wb c P w)):KR H E ⟨A,k,xs⟩:=fun v hs=>by
 refine(Zam (l:=rwL wb c P w) i hi).here (p:=fun v=>Rd E v (SV.v ⟨A,k,xs⟩) xs) (fun H v hs=>?_) j hj v hs;exact ZeZ (H:=_::H) (A:=A) (m:=m) (k:=k) (xs:=xs) 0 rfl hm v hs
theorem Zci {α:Type}{E:Enc α}{A:Option Addr}{k:Nat}{xs:List α}{H:List SP}(h:KR H E ⟨A,k,xs⟩){a:α}(hx:xs[d]? =some a):∀v,Sat v H→∃sb so,A=some ⟨sb,so,none⟩:=fun v hs=>
 h.isSome (by intro h0;simp only at h0;rw[h0]at hx;simp at hx) v hs
theorem ZpZ (j:Nat){H:List SP}(hp:P.s[d]? =some p)(hx:w.s[d]? =some x){i:Nat}{r:Int}(hi:i<c.domains.l.length)(hr:x.read[i]? =some r)(hj:H[j]? =some (rwS wb c P w)):∀v,Sat v H→v.cell? ⟨p.s,0+i*1,none⟩=some (.int .i64 r):=
 ((Zew hp hx).comp (Zam (l:=Zkq c.domains.l.length p x) 3 rfl)).here (fun H v hs=>by
  exact Zac (H:=_::H) (E:=kE .i64) 0 rfl (J:=i) (j:=0) (x:=r) (by rw[List.getElem?_take,if_pos hi];exact hr) rfl v hs) j hj
theorem Zp0 (hp:P.s[d]? =some p)(hx:w.s[d]? =some x)(i:Nat)(v:Int):Zaz ((rwL wb c P w).set 8 (Zaz ((ZbO c.domains.l.length P.s w.s).set d (Zaz ((Zkq c.domains.l.length p x).set 3 (row (kE .i64) 3 (.slice (some ⟨p.s,0,none⟩) c.domains.l.length c.domains.l.length) ((x.read.take c.domains.l.length).set i v)))))))=rwS wb c P (wUp w d {x with read:=x.read.set i v}):=by
 rw[Zkn];exact ZcG hp hx ⟨rfl,rfl,List.length_set⟩
theorem Zeg (j:Nat){H:List SP}{i:Nat}{A:Option Addr}{m k sb so:Nat}(hA:A=some ⟨sb,so,none⟩)(hu:(rwC c P)[i]? =some (.slice A m k))(hj:H[j]? =some (rwS wb c P w)):∀v,Sat v H→v.cell? ⟨wb,i,none⟩=some (.slice (some ⟨sb,so,none⟩) m k):=by
 have:=ZaE j hj hu
 rwa[hA]at this
theorem rw_led (j:Nat){H:List SP}(hj:H[j]? =some (rwS wb c P w)):∀v,Sat v H→LdOk w.l 1125899906842624:=
 (Zam (l:=rwL wb c P w) 6 rfl).here (fun H v hs=>Zn7 (H:=_::H) 0 rfl v hs) j hj
end
def Zeh (wb:Nat)(c:ConfV)(P:RWP):SP:=exS fun z:WS=>rwS wb c P z
section
variable {wb :Nat}{c:ConfV}{P:RWP}
theorem ZdE {A:SP}{H:List SP}{v:World}{z:WS}(h:Sat v (A::rwS wb c P z::H)):Sat v (A::Zeh wb c P::H):=SatF.swap (Sat.closeEx z (SatF.swap h))
theorem Zfy {H:List SP}{v:World}{z:WS}(h:Sat v (rwS wb c P z::H)):Sat v (Zeh wb c P::H):=Sat.closeEx z h
theorem ZkJ {A B:SP}{H:List SP}{v:World}{z:WS}(h:Sat v (A::B::rwS wb c P z::H)):Sat v (A::B::Zeh wb c P::H):=Sat.pick 2 rfl (Sat.pick 2 rfl (Zfy (Sat.pick 2 rfl h)))
theorem Zgm {H:List SP}(j:Nat)(hj:H[j]? =some (Zeh wb c P)){p:World→Prop}(h:∀(z:WS) (H:List SP) (v:World),Sat v (rwS wb c P z::H)→p v):∀v,Sat v H→p v:=fun v hs=>by
 obtain⟨z,h1⟩:=Sat.openEx (Sat.pick j hj hs);exact h z _ v h1
theorem Zmm (j:Nat){H:List SP}{i:Nat}{u:Value}(hj:H[j]? =some (Zeh wb c P))(hu:(rwC c P)[i]? =some u):∀v,Sat v H→v.cell? ⟨wb,i,none⟩=some u:=
 Zgm j hj fun z _ v hs=>ZaE 0 rfl hu v hs
theorem Zrz (j:Nat){H:List SP}{i:Nat}{A:Option Addr}{m k sb so:Nat}(hA:A=some ⟨sb,so,none⟩)(hu:(rwC c P)[i]? =some (.slice A m k))(hj:H[j]? =some (Zeh wb c P)):∀v,Sat v H→v.cell? ⟨wb,i,none⟩=some (.slice (some ⟨sb,so,none⟩) m k):=
 Zgm j hj fun z _ v hs=>Zeg 0 hA hu rfl v hs
theorem ZrA {α:Type}{E:Enc α}{T:TypeId}(i:Nat){A:Option Addr}{m k:Nat}{xs:List α}(hi:∀z,(rwL wb c P z)[i]? =some (row E T (.slice A m k) xs))(hm:m=xs.length)(j:Nat){H:List SP}(hj:H[j]? =some (Zeh wb c P)):KR H E ⟨A,k,xs⟩:=
 Zgm j hj fun z _ v hs=>Zcz i (hi z) hm 0 rfl v hs
theorem Zml (j:Nat){H:List SP}{d:Nat}{p:RdP}(hp:P.s[d]? =some p)(hj:H[j]? =some (Zeh wb c P)):∀v,Sat v H→v.cell? ⟨p.k,0,none⟩=some (.pointer (some ⟨p.t,0,none⟩)):=
 Zgm j hj fun z _ v hs=>by
  have h0:=(ZgW 0 rfl v hs).1;have hd:=(gSs hp).1;exact ZpY 0 hp (x:=z.s[d]'(by omega)) (gEe (by omega)) rfl v hs
end
theorem Zij (e:Int):ZaK ((0,0),e)=(e,0,0):=by unfold ZaK;split<;>simp_all
def ZcM (c:ConfV)(z:WS)(d:Nat)(op a b:Int):(Int×Int×Int)×WS:=
 if op=9 then(ZaK (Zc2 c z d a),z)
 else if op=10 then(ZaK (Zbh c z d a).1,(Zbh c z d a).2)
 else if op=11 then(ZaK ((0,0),(Zcg c z d a b).1),(Zcg c z d a b).2)
 else if op=12 then(ZaK (Zca z d).1,(Zca z d).2)
 else if op=13 then(ZaK ((0,0),(ZbH c z d a).1),(ZbH c z d a).2)
 else if op=14 then(ZaK ((0,0),(ZcF c z d a).1),(ZcF c z d a).2)
 else((16,0,0),z)
theorem Zg0 (H :List SP) (wb:Nat) (c:ConfV) (P:RWP) (z:WS) (hk:KC H c) (hcl:c.domains.l.length≤6) (hb:∀y∈z.s,y.b.l.length<100000) (d:Nat) (p:RdP) (x:SdS) (hp:P.s[d]? =some p) (hx:z.s[d]? =some x) (hdl:d<c.domains.l.length) (op a b:Int):U0 115 #[vp wb,vi d,.agg #[vi op,vi a,vi b]] (rwS wb c P z::H) (.agg #[vi (ZcM c z d op a b).1.1,vi (ZcM c z d op a b).1.2.1,vi (ZcM c z d op a b).1.2.2]) (rwS wb c P (ZcM c z d op a b).2::H):=by
 obtain⟨y9,hy9⟩:∃y,c.domains.l[d]? =some y:=⟨_,gEe hdl⟩
 have hsd:=Zbj hx;have hcL:=fun(H2:List SP) (hk2:KC H2 c)=>Zp2 (wb:=wb) (c:=c) (P:=P) (w:=z) (H:=H2) (X:=fun _:Unit=> []) (t':=fun _=>(ZaI c z.t d a).2) (fun R=>Zmb (R++H2) P.t c z.t d a (hk2.right R))
 have hcP:=fun(H2:List SP)=>Zp2 (wb:=wb) (c:=c) (P:=P) (w:=z) (H:=H2) (X:=fun _:Unit=> []) (t':=fun _=>(ZaW z.t c.plans.l.length a).2) (fun R=>Zma (R++H2) P.t c z.t a)
 simp only[List.nil_append]at hcL hcP;have hac:=fun H=>Zp1 (wb:=wb) (c:=c) (P:=P) (w:=z) (ι:=Unit) (l':=fun _=>z.l) (fun H=>Zjy H P.l z.l a) H
 refine eG func115 228 ?_;refine PT.know (ZgW 0 rfl) ?_;intro hok0;have hok1:=hok0;obtain⟨⟨hn1,hn2,hn6⟩,hok⟩:=hok1;refine PT.know (rw_led 0 rfl) ?_;intro hled;have hrd:=hok d x y9 hx hy9;have hrd2:=hrd.2.1;refine PT.know (Zci (Zcz (wb:=wb) (c:=c) (P:=P) (w:=z) (E:=bpE) 2 rfl (by simp) 0 rfl) (d:=d) (by rw[List.getElem?_map,hp];rfl)) ?_;rintro⟨rb,ro,hRA⟩;refine PT.know (Zci (Zcz (wb:=wb) (c:=c) (P:=P) (w:=z) (E:=bpE) 3 rfl (by simp) 0 rfl) (d:=d) (by rw[List.getElem?_map,hp];rfl)) ?_;rintro⟨xb,xo,hXA⟩;refine PT.know (Zci (Zcz (wb:=wb) (c:=c) (P:=P) (w:=z) (E:=kE .i64) 4 rfl (by simp;omega) 0 rfl) (d:=d) (by rw[List.getElem?_map,hx];rfl)) ?_;rintro⟨pb,po,hPA⟩;refine PT.know (Zci (Zcz (wb:=wb) (c:=c) (P:=P) (w:=z) (E:=ZnR) 5 rfl (by simp) 0 rfl) (d:=d) (by rw[List.getElem?_map,hp];rfl)) ?_;rintro⟨sb,so,hSA⟩;refine Xq<|Xg 2<|Bx 1 (Xn 35 [vi op,vi a,vi b] (some 5) (fun b=>vp b)) fun b1=>Bx 0 (Xn 31 [vi 0,vi 0,vi 0] (some 6) (fun b=>vp b)) fun b2=>endR<|Xq<|Xq<|Xg 2<|Bm [(⟨b1,0,none⟩,vi op)] (hasC (ba 1) Zaa)<|Xb 0<|Xq<|Xg 2<|Be<|Xc (op==9) (fun h9=>?_) (fun h9=>?_)
 ·have he9:ZcM c z d op a b=(ZaK (Zc2 c z d a),z):=by rw[ZcM,if_pos (eq_of_beq h9)]
  refine Xq<|Xq<|Xy0 0 [] 9<|At' [0,1,2,3,4,5,6] [(⟨wb,0,none⟩,vi c.frame),(⟨wb,1,none⟩,vi c.epoch),(⟨wb,2,none⟩,.slice c.plans.a c.plans.l.length c.plans.c),(⟨wb,3,none⟩,.slice c.domains.a c.domains.l.length c.domains.c),(⟨b1,1,none⟩,vi a)] (hasC (ZaE 2 (i:=0) rfl rfl) (hasC (ZaE 2 (i:=1) rfl rfl) (hasC (ZaE 2 (i:=2) rfl rfl) (hasC (ZaE 2 (i:=3) rfl rfl) (hasC (ba 1) Zaa)))))<|Yo 7 (Xa (some 28) _ (Zde _ c hk.up.up.up d y9 hy9 a))<|At' [8] [] Zaa<|Xd (Xq (Xg 2 (Ce [(6,vp b2),(5,vp b1),(0,vp wb),(7,vi (Zah c a (d:Int))),(30,.bool ((Zah c a (d:Int)) !=0))] ?_)));by_cases hf:Zah c a (d:Int)=0
  ·have hin:=ZiT hled (by decide) a;obtain⟨⟨hi1,hi2⟩,⟨hi3,hi4⟩,_⟩:=hin;simp only[acK]at hi2 hi4;have he:ZcM c z d op a b=((0,(ZaF z.l a).own+(ZaF z.l a).got,(ZaF z.l a).idle),z):=by rw[he9,Zc2,if_pos hf];rfl
   rw[show((Zah c a (d:Int)) !=0)=false from by simp[hf]];refine cF<|Xk<|Xq<|Xy0 0 [] 9<|At' [0,1,2,3,4,5] [(⟨wb,9,none⟩,vp P.l),(⟨b1,1,none⟩,vi a)] (hasC (ZaE 2 (i:=9) rfl rfl) (hasC (ba 1) Zaa)) ?_;refine Xw 6 7 ?_ ?_
   ·refine Xh 6 (Xa (some 39) _ (Zak 2 rfl (hac _))) (fun _=>?_);refine Xo 7 (Xn 102 [vi 0,vi 0,vi 0,vi 0] (some 8) (fun b=>vp b)) fun b3=>Yo 8 (Xz [(0,vi ((ZaF z.l a).own)),(1,vi ((ZaF z.l a).got)),(2,vi ((ZaF z.l a).idle)),(3,vi ((ZaF z.l a).freed))])<|Xd<|Xq<|Xg 9<|Cl 1 8 [(6,vp b2),(47,.agg #[vi 0,vi (IntKind.i64.wrap (((ZaF z.l a).own)+((ZaF z.l a).got))),vi ((ZaF z.l a).idle)])] [(⟨b3,0,none⟩,vi ((ZaF z.l a).own)),(⟨b3,1,none⟩,vi ((ZaF z.l a).got)),(⟨b3,2,none⟩,vi ((ZaF z.l a).idle))] (hasC (ba 0) (hasC (ba 0) (hasC (ba 0) Zaa)))<|Xh0 ?_ 1 1
    refine Bs 0 (Xz [(0,vi 0),(1,vi (IntKind.i64.wrap (((ZaF z.l a).own)+((ZaF z.l a).got)))),(2,vi ((ZaF z.l a).idle))])<|endR<|Xv (Zae (Zab ?_));rw[show IntKind.i64.wrap (((ZaF z.l a).own)+((ZaF z.l a).got))=(((ZaF z.l a).own)+((ZaF z.l a).got))by rw[w64 (by omega) (by omega)]];refine Zm8 (.agg #[.int .i64 0,.int .i64 (((ZaF z.l a).own)+((ZaF z.l a).got)),.int .i64 ((ZaF z.l a).idle)]) [(⟨b2,0,none⟩,.int .i64 0),(⟨b2,1,none⟩,.int .i64 (((ZaF z.l a).own)+((ZaF z.l a).got))),(⟨b2,2,none⟩,.int .i64 ((ZaF z.l a).idle))] (hasC (ZaS (T:=31) (cs:=[.int .i64 0,.int .i64 (((ZaF z.l a).own)+((ZaF z.l a).got)),.int .i64 ((ZaF z.l a).idle)]) 0 rfl rfl) (hasC (ZaS (T:=31) (cs:=[.int .i64 0,.int .i64 (((ZaF z.l a).own)+((ZaF z.l a).got)),.int .i64 ((ZaF z.l a).idle)]) 0 rfl rfl) (hasC (ZaS (T:=31) (cs:=[.int .i64 0,.int .i64 (((ZaF z.l a).own)+((ZaF z.l a).got)),.int .i64 ((ZaF z.l a).idle)]) 0 rfl rfl) Zaa))) (fun _=>Kr) (fun w hs=>?_) .normal (.inl rfl);exact⟨(),by rw[he]<;>rfl,by rw[he];exact hs.tail.tail.tail⟩
   ·refine Xh 7 (Xn 102 [vi 0,vi 0,vi 0,vi 0] (some 8) (fun b=>vp b)) (fun b3=>?_);refine Yo 6 (Xa (some 39) _ (Zak 3 rfl (hac _)))<|Yo 8 (Xz [(0,vi ((ZaF z.l a).own)),(1,vi ((ZaF z.l a).got)),(2,vi ((ZaF z.l a).idle)),(3,vi ((ZaF z.l a).freed))])<|Xd<|Xq<|Xg 9<|Cl 1 8 [(6,vp b2),(47,.agg #[vi 0,vi (IntKind.i64.wrap (((ZaF z.l a).own)+((ZaF z.l a).got))),vi ((ZaF z.l a).idle)])] [(⟨b3,0,none⟩,vi ((ZaF z.l a).own)),(⟨b3,1,none⟩,vi ((ZaF z.l a).got)),(⟨b3,2,none⟩,vi ((ZaF z.l a).idle))] (hasC (ba 0) (hasC (ba 0) (hasC (ba 0) Zaa)))<|Xh0 ?_ 1 1;refine Bs 0 (Xz [(0,vi 0),(1,vi (IntKind.i64.wrap (((ZaF z.l a).own)+((ZaF z.l a).got)))),(2,vi ((ZaF z.l a).idle))])<|endR<|Xv (Zae (Zab ?_));rw[show IntKind.i64.wrap (((ZaF z.l a).own)+((ZaF z.l a).got))=(((ZaF z.l a).own)+((ZaF z.l a).got))by rw[w64 (by omega) (by omega)]];refine Zm8 (.agg #[.int .i64 0,.int .i64 (((ZaF z.l a).own)+((ZaF z.l a).got)),.int .i64 ((ZaF z.l a).idle)]) [(⟨b2,0,none⟩,.int .i64 0),(⟨b2,1,none⟩,.int .i64 (((ZaF z.l a).own)+((ZaF z.l a).got))),(⟨b2,2,none⟩,.int .i64 ((ZaF z.l a).idle))] (hasC (ZaS (T:=31) (cs:=[.int .i64 0,.int .i64 (((ZaF z.l a).own)+((ZaF z.l a).got)),.int .i64 ((ZaF z.l a).idle)]) 0 rfl rfl) (hasC (ZaS (T:=31) (cs:=[.int .i64 0,.int .i64 (((ZaF z.l a).own)+((ZaF z.l a).got)),.int .i64 ((ZaF z.l a).idle)]) 0 rfl rfl) (hasC (ZaS (T:=31) (cs:=[.int .i64 0,.int .i64 (((ZaF z.l a).own)+((ZaF z.l a).got)),.int .i64 ((ZaF z.l a).idle)]) 0 rfl rfl) Zaa))) (fun _=>Kr) (fun w hs=>?_) .normal (.inl rfl);exact⟨(),by rw[he]<;>rfl,by rw[he];exact hs.tail.tail.tail⟩
  ·have he:ZcM c z d op a b=((Zah c a (d:Int),0,0),z):=by rw[he9,Zc2,if_neg hf,ZaK,if_neg hf]
   rw[show((Zah c a (d:Int)) !=0)=true from by simp[hf]];refine cT<|Xq<|Xg 3<|Br 1 2<|Bs 0 (Xz [(0,vi (Zah c a (d:Int))),(1,vi 0),(2,vi 0)])<|endR<|Xv<|Zab<|Zae<|Zab<|dB 0 (.agg #[.int .i64 (Zah c a (d:Int)),.int .i64 0,.int .i64 0]) (fun w hs=>?_);exact⟨(),by rw[he],by rw[he];exact hs.tail.tail⟩
 ·have hn9:op≠9:=beq_eq_false_iff_ne.1 h9;refine Xq<|Xg 2<|Ce [(6,vp b2),(5,vp b1),(0,vp wb),(1,vi d),(18,vi op),(48,.bool (op==10))]<|Xc (op==10) (fun h10=>?_) (fun h10=>?_)
  ·have he10:ZcM c z d op a b=(ZaK (Zbh c z d a).1,(Zbh c z d a).2):=by rw[ZcM,if_neg hn9,if_pos (eq_of_beq h10)]
   by_cases hf:Zah c a (d:Int)=0
   ·obtain⟨⟨i,rfl,hi⟩,_⟩:=chkFlow_is hf;obtain⟨q,y,hq,hy⟩:∃q y,P.s[i]? =some q∧z.s[i]? =some y:=⟨_,_,gEe (by omega),gEe (by omega)⟩
    obtain⟨r,hr⟩:∃r,x.read[i]? =some r:=⟨_,gEe (by rw[hrd.1];omega)⟩
    have hnx:Zga z d i=Zar y.r (IntKind.i64.wrap (r+1)):=by rw[Zga,Zbj hx,Zbj hy,List.getD_eq_getElem?_getD,hr];rfl
    have he0:Zbh c z d (i:Int)=if(Zar y.r (IntKind.i64.wrap (r+1))).2=true then((((Zar y.r (IntKind.i64.wrap (r+1))).1.1,IntKind.i64.wrap (IntKind.i64.wrap ((Zar y.r (IntKind.i64.wrap (r+1))).1.2.2.1*100)+(Zar y.r (IntKind.i64.wrap (r+1))).1.2.2.2)),0),wUp z d {x with read:=x.read.set i (Zar y.r (IntKind.i64.wrap (r+1))).1.1})else(((0,0),13),z):=by rw[Zbh,if_pos hf,Int.toNat_natCast,hnx,hsd]
    have hc:=fun H=>Zpc (wb:=wb) (c:=c) (X:=fun _:Unit=> []) (k':=fun _=>y.r) hq hy (fun H=>Zl6 H q.r y.r (IntKind.i64.wrap (r+1))) H
    simp only[List.nil_append,Zb9 hy]at hc;refine Xq<|Xq<|Xy0 0 [] 9<|At' [0,1,2,3,4,5,6] [(⟨wb,0,none⟩,vi c.frame),(⟨wb,1,none⟩,vi c.epoch),(⟨wb,2,none⟩,.slice c.plans.a c.plans.l.length c.plans.c),(⟨wb,3,none⟩,.slice c.domains.a c.domains.l.length c.domains.c),(⟨b1,1,none⟩,vi i)] (hasC (ZaE 2 (i:=0) rfl rfl) (hasC (ZaE 2 (i:=1) rfl rfl) (hasC (ZaE 2 (i:=2) rfl rfl) (hasC (ZaE 2 (i:=3) rfl rfl) (hasC (ba 1) Zaa)))))<|Yo 7 (Xa (some 57) _ (Zde _ c hk.up.up.up d y9 hy9 (i:Int)))<|At' [8] [] Zaa<|Xd (Xq (Xg 2 (Ce [(6,vp b2),(5,vp b1),(0,vp wb),(1,vi d),(9,vi (Zah c (i:Int) (d:Int))),(59,.bool ((Zah c (i:Int) (d:Int)) !=0))] ?_)));rw[show((Zah c (i:Int) (d:Int)) !=0)=false from by simp[hf]];refine cF<|Xk (Xq ?_);refine Zk4 (fun(u:Nat×Unit)=> [(0,vp wb),(1,vi d),(5,vp b1),(6,vp b2),(10,vp u.1),(11,.bool ((Zar y.r (IntKind.i64.wrap (r+1))).2))]) (fun(u:Nat×Unit)=>(blk u.1 48 [vi ((Zar y.r (IntKind.i64.wrap (r+1))).1.1),vi ((Zar y.r (IntKind.i64.wrap (r+1))).1.2.1),vi ((Zar y.r (IntKind.i64.wrap (r+1))).1.2.2.1),vi ((Zar y.r (IntKind.i64.wrap (r+1))).1.2.2.2)]::blk b2 31 [vi 0,vi 0,vi 0]::blk b1 35 [vi op,vi i,vi b]::rwS wb c P z::H)) ?_ (fun u=>?_)
    ·refine Xy0 0 [] 27<|At' [0,1,2,3,4,5,8,9,10,11,12,15,16] [(⟨wb,5,none⟩,.slice (sA rb ro) P.s.length P.rn),(⟨b1,1,none⟩,vi i),(⟨wb,8,none⟩,.slice (sA sb so) P.s.length P.sn),(⟨b1,1,none⟩,vi i)] (hasC (Zeg 2 (i:=5) hRA rfl rfl) (hasC (ba 1) (hasC (Zeg 2 (i:=8) hSA rfl rfl) (hasC (ba 1) Zaa))))<|Xu 6 (Xi 77 (.tmp 66) (.tmp 68) rb ro P.s.length P.rn i 1 97 (i:Int) 69 underlying77)<|At' [7] [(⟨rb,ro+i*1,none⟩,vp q.r)] (hasC ((Zcz (wb:=wb) (c:=c) (P:=P) (w:=z) (E:=bpE) 2 rfl (by simp) 2 rfl).cell hRA (i:=i) (j:=0) (x:=q.r) (by rw[List.getElem?_map,hq];rfl) rfl) Zaa) ?_;refine Xu 13 (Xi 23 (.tmp 74) (.tmp 75) sb so P.s.length P.sn d 1 42 (d:Int) 76 underlying23)<|At' [14] [(⟨sb,so+d*1,none⟩,.slice (s0 p.s) c.domains.l.length c.domains.l.length)] (hasC ((Zcz (wb:=wb) (c:=c) (P:=P) (w:=z) (E:=ZnR) 5 rfl (by simp) 2 rfl).cell hSA (i:=d) (j:=0) (x:=(p.s,c.domains.l.length)) (by rw[List.getElem?_map,hp];rfl) rfl) Zaa) ?_;refine Xu 17 (Xi 42 (.tmp 77) (.tmp 79) p.s 0 c.domains.l.length c.domains.l.length i 1 3 (i:Int) 80 underlying42)<|At' [18,19] [(⟨p.s,0+i*1,none⟩,vi r)] (hasC (ZpZ 2 hp hx hi hr rfl) Zaa) ?_;refine Xw 20 24 ?_ ?_
     ·refine Xh 20 (Xa (some 83) _ (Zak 2 rfl (hc _))) (fun _=>?_);exact At' [21,22,23] [] Zaa<|Xo 24 (Xn 48 [vi 0,vi 0,vi 0,vi 0] (some 10) (fun b=>vp b)) fun b3=>Yo 25 (Xz [(0,vi ((Zar y.r (IntKind.i64.wrap (r+1))).1.1)),(1,vi ((Zar y.r (IntKind.i64.wrap (r+1))).1.2.1)),(2,vi ((Zar y.r (IntKind.i64.wrap (r+1))).1.2.2.1)),(3,vi ((Zar y.r (IntKind.i64.wrap (r+1))).1.2.2.2))])<|At' [26] [] Zaa<|Xd (mA ((b3,())))
     ·refine Xh 24 (Xn 48 [vi 0,vi 0,vi 0,vi 0] (some 10) (fun b=>vp b)) (fun b3=>?_);exact Yo 20 (Xa (some 83) _ (Zak 3 rfl (hc _)))<|At' [21,22,23] [] Zaa<|Yo 25 (Xz [(0,vi ((Zar y.r (IntKind.i64.wrap (r+1))).1.1)),(1,vi ((Zar y.r (IntKind.i64.wrap (r+1))).1.2.1)),(2,vi ((Zar y.r (IntKind.i64.wrap (r+1))).1.2.2.1)),(3,vi ((Zar y.r (IntKind.i64.wrap (r+1))).1.2.2.2))])<|At' [26] [] Zaa<|Xd (mA ((b3,())))
    obtain⟨u,_⟩:=u;dsimp only;refine Xq (Xq (Xg 2 (Ce [(0,vp wb),(1,vi d),(5,vp b1),(6,vp b2),(10,vp u),(87,.bool (!((Zar y.r (IntKind.i64.wrap (r+1))).2)))] ?_)));cases h1:((Zar y.r (IntKind.i64.wrap (r+1))).2)with
    |true=>
     have he:ZcM c z d op (i:Int) b=((0,(Zar y.r (IntKind.i64.wrap (r+1))).1.1,IntKind.i64.wrap (IntKind.i64.wrap ((Zar y.r (IntKind.i64.wrap (r+1))).1.2.2.1*100)+(Zar y.r (IntKind.i64.wrap (r+1))).1.2.2.2)),wUp z d {x with read:=x.read.set i (Zar y.r (IntKind.i64.wrap (r+1))).1.1}):=by rw[he10,he0,if_pos h1];rfl
     have hcm:(100:Int)*(Zar y.r (IntKind.i64.wrap (r+1))).1.2.2.1=(Zar y.r (IntKind.i64.wrap (r+1))).1.2.2.1*100:=Int.mul_comm _ _;refine PT.pick 2 rfl<|PT.pick 2 rfl<|PT.pick 2 rfl<|PT.pick 3 rfl<|cF<|Xk<|Xq<|Xy0 0 [12] 13<|At' [0,1,2,3,4,7,8,9,10] [(⟨wb,8,none⟩,.slice (sA sb so) P.s.length P.sn),(⟨b1,1,none⟩,vi i),(⟨u,0,none⟩,vi ((Zar y.r (IntKind.i64.wrap (r+1))).1.1))] (hasC (Zeg 0 (i:=8) hSA rfl rfl) (hasC (ba 3) (hasC (ba 1) Zaa)))<|Xu 5 (Xi 23 (.tmp 92) (.tmp 93) sb so P.s.length P.sn d 1 42 (d:Int) 94 underlying23)<|At' [6] [(⟨sb,so+d*1,none⟩,.slice (s0 p.s) c.domains.l.length c.domains.l.length)] (hasC ((Zcz (wb:=wb) (c:=c) (P:=P) (w:=z) (E:=ZnR) 5 rfl (by simp) 0 rfl).cell hSA (i:=d) (j:=0) (x:=(p.s,c.domains.l.length)) (by rw[List.getElem?_map,hp];rfl) rfl) Zaa) ?_;refine Xu 11 (Xi 42 (.tmp 95) (.tmp 97) p.s 0 c.domains.l.length c.domains.l.length i 1 3 (i:Int) 100 underlying42)<|Yo 12 (Step.lens ((Zew hp hx).comp (Zam (l:=Zkq c.domains.l.length p x) 3 rfl)) (Zp0 hp hx i (Zar y.r (IntKind.i64.wrap (r+1))).1.1) (fun R=>ZdU (E:=kE .i64) (J:=i) (j:=0) r (Zar y.r (IntKind.i64.wrap (r+1))).1.1 (.int .i64 (Zar y.r (IntKind.i64.wrap (r+1))).1.1) ⟨p.s,0+i*1,none⟩ (fun _=>Kr) (by first|rfl|simp) (by rw[List.getElem?_take,if_pos hi];exact hr) rfl (by decide))) ?_;refine Xd<|Xq<|Xg 10<|Bl 1 9 [(⟨u,0,none⟩,vi ((Zar y.r (IntKind.i64.wrap (r+1))).1.1)),(⟨u,2,none⟩,vi ((Zar y.r (IntKind.i64.wrap (r+1))).1.2.2.1)),(⟨u,3,none⟩,vi ((Zar y.r (IntKind.i64.wrap (r+1))).1.2.2.2))] (hasC (ba 1) (hasC (ba 1) (hasC (ba 1) Zaa)))<|Xh0 ?_ 2 1;refine Bs 0 (Xz [(0,vi 0),(1,vi ((Zar y.r (IntKind.i64.wrap (r+1))).1.1)),(2,vi (IntKind.i64.wrap ((IntKind.i64.wrap (100*((Zar y.r (IntKind.i64.wrap (r+1))).1.2.2.1)))+((Zar y.r (IntKind.i64.wrap (r+1))).1.2.2.2))))])<|endR<|Xv<|Zae<|Zab<|dB 0 (.agg #[.int .i64 0,.int .i64 ((Zar y.r (IntKind.i64.wrap (r+1))).1.1),.int .i64 (IntKind.i64.wrap ((IntKind.i64.wrap (100*((Zar y.r (IntKind.i64.wrap (r+1))).1.2.2.1)))+((Zar y.r (IntKind.i64.wrap (r+1))).1.2.2.2)))]) (fun w hs=>?_);exact⟨(),by rw[he,hcm]<;>rfl,by rw[he];exact Sat.erase 1 rfl (Sat.erase 2 rfl hs.tail)⟩
    |false=>
     have he:ZcM c z d op (i:Int) b=((13,0,0),z):=by rw[he10,he0,if_neg (by rw[h1];simp)];rfl
     refine cT<|Xq<|Xg 2<|Br 1 1<|Xh0 ?_ 1 1;refine Bs 0 (Xz [(0,vi 13),(1,vi 0),(2,vi 0)])<|endR<|Xv<|Zab<|Zae<|Zab<|dB 0 (.agg #[.int .i64 13,.int .i64 0,.int .i64 0]) (fun w hs=>?_);exact⟨(),by rw[he],by rw[he];exact hs.tail.tail.tail⟩
   ·have he:ZcM c z d op a b=((Zah c a (d:Int),0,0),z):=by rw[he10,Zbh,if_neg hf,ZaK,if_neg hf]
    refine Xq<|Xq<|Xy0 0 [] 9<|At' [0,1,2,3,4,5,6] [(⟨wb,0,none⟩,vi c.frame),(⟨wb,1,none⟩,vi c.epoch),(⟨wb,2,none⟩,.slice c.plans.a c.plans.l.length c.plans.c),(⟨wb,3,none⟩,.slice c.domains.a c.domains.l.length c.domains.c),(⟨b1,1,none⟩,vi a)] (hasC (ZaE 2 (i:=0) rfl rfl) (hasC (ZaE 2 (i:=1) rfl rfl) (hasC (ZaE 2 (i:=2) rfl rfl) (hasC (ZaE 2 (i:=3) rfl rfl) (hasC (ba 1) Zaa)))))<|Yo 7 (Xa (some 57) _ (Zde _ c hk.up.up.up d y9 hy9 a))<|At' [8] [] Zaa<|Xd (Xq (Xg 2 (Ce [(6,vp b2),(5,vp b1),(0,vp wb),(1,vi d),(9,vi (Zah c a (d:Int))),(59,.bool ((Zah c a (d:Int)) !=0))] ?_)));rw[show((Zah c a (d:Int)) !=0)=true from by simp[hf]];refine cT<|Xq<|Xg 3<|Br 1 2<|Bs 0 (Xz [(0,vi (Zah c a (d:Int))),(1,vi 0),(2,vi 0)])<|endR<|Xv<|Zab<|Zae<|Zab<|dB 0 (.agg #[.int .i64 (Zah c a (d:Int)),.int .i64 0,.int .i64 0]) (fun w hs=>?_);exact⟨(),by rw[he],by rw[he];exact hs.tail.tail⟩
  ·have hn10:op≠10:=beq_eq_false_iff_ne.1 h10;refine Xq<|Xg 2<|Ce [(6,vp b2),(5,vp b1),(0,vp wb),(1,vi d),(18,vi op),(110,.bool (op==11))]<|Xc (op==11) (fun h11=>?_) (fun h11=>?_)
   ·have he11:ZcM c z d op a b=(ZaK ((0,0),(Zcg c z d a b).1),(Zcg c z d a b).2):=by rw[ZcM,if_neg hn9,if_neg hn10,if_pos (eq_of_beq h11)]
    by_cases hf:Zah c (d:Int) a=0
    ·obtain⟨_,i,rfl,hi⟩:=chkFlow_is hf;obtain⟨q,y0,hq,hy0'⟩:∃q y,P.s[i]? =some q∧z.s[i]? =some y:=⟨_,_,gEe (by omega),gEe (by omega)⟩
     refine Xq<|Xq<|Xy0 0 [] 9<|At' [0,1,2,3,4,5,6] [(⟨wb,0,none⟩,vi c.frame),(⟨wb,1,none⟩,vi c.epoch),(⟨wb,2,none⟩,.slice c.plans.a c.plans.l.length c.plans.c),(⟨wb,3,none⟩,.slice c.domains.a c.domains.l.length c.domains.c),(⟨b1,1,none⟩,vi i)] (hasC (ZaE 2 (i:=0) rfl rfl) (hasC (ZaE 2 (i:=1) rfl rfl) (hasC (ZaE 2 (i:=2) rfl rfl) (hasC (ZaE 2 (i:=3) rfl rfl) (hasC (ba 1) Zaa)))))<|Yo 7 (Xa (some 119) _ (Zez _ c hk.up.up.up d y9 hy9 (i:Int)))<|At' [8] [] Zaa<|Xd (Xq (Xg 2 (Ce [(6,vp b2),(5,vp b1),(0,vp wb),(1,vi d),(12,vi (Zah c (d:Int) (i:Int))),(121,.bool ((Zah c (d:Int) (i:Int)) !=0))] ?_)));rw[show((Zah c (d:Int) (i:Int)) !=0)=false from by simp[hf]];refine cF<|Xk<|Xq<|Xq<|Xg 8<|Bl 3 5 [(⟨wb,7,none⟩,.slice (sA pb po) P.s.length P.pn)] (hasC (Zeg 2 (i:=7) hPA rfl rfl) Zaa)<|Bs 2 (Zav (Xi 42 (.tmp 127) (.tmp 128) pb po P.s.length P.pn d 1 3 (d:Int) 129 underlying42))<|Cm [(6,vp b2),(5,vp b1),(0,vp wb),(1,vi d),(131,.bool (x.left==0))] [(⟨pb,po+d*1,none⟩,vi x.left)] (hasC ((Zcz (wb:=wb) (c:=c) (P:=P) (w:=z) (E:=kE .i64) 4 rfl (by simp;omega) 2 rfl).cell hPA (i:=d) (j:=0) (x:=x.left) (by rw[List.getElem?_map,hx];rfl) rfl) Zaa) ?_;by_cases h0:x.left=0
     ·have he:ZcM c z d op (i:Int) b=((14,0,0),z):=by rw[he11,Zcg,if_pos hf,hsd,if_pos h0];rfl
      rw[show(x.left==0)=true from by simp[h0]];refine cT<|Xq<|Xg 2<|Br 1 1<|Bs 0 (Xz [(0,vi 14),(1,vi 0),(2,vi 0)])<|endR<|Xv<|Zab<|Zae<|Zab<|dB 0 (.agg #[.int .i64 14,.int .i64 0,.int .i64 0]) (fun w hs=>?_);exact⟨(),by rw[he],by rw[he];exact hs.tail.tail⟩
     ·have he:ZcM c z d op (i:Int) b=((0,0,0),Zq4 (wUp z d {x with left:=x.left-1}) d i b):=by rw[he11,Zcg,if_pos hf,hsd,if_neg h0,Int.toNat_natCast,Zkf,hsd];rfl
      obtain⟨y,hy,hyb⟩:∃y,(wUp z d {x with left:=x.left-1}).s[i]? =some y∧y.b.l.length<100000:=by
       by_cases hdi:d=i
       ·subst hdi
        exact⟨{x with left:=x.left-1},Zid hx _,hb x (gMm hx)⟩
       ·exact⟨y0,by rw[show(wUp z d {x with left:=x.left-1}).s[i]? =z.s[i]? from List.getElem?_set_ne hdi];exact hy0',hb y0 (gMm hy0')⟩
      have hpt:=fun H=>Zrr (wb:=wb) (c:=c) (X:=fun _:Unit=> []) (k':=fun _=>Zb0 y.b d b) hq hy (fun H=>Zoc H q.x y.b d b hyb) H
      simp only[List.nil_append]at hpt;rw[show(x.left==0)=false from by simp[h0]];refine PT.pick 1 rfl<|PT.pick 1 rfl<|PT.pick 2 rfl<|cF<|Xk<|Xq<|Xy0 0 [14] 15<|At' [0,1,2,3,4,5,6,7,8,9] [(⟨wb,7,none⟩,.slice (sA pb po) P.s.length P.pn),(⟨wb,7,none⟩,.slice (sA pb po) P.s.length P.pn)] (hasC (Zeg 0 (i:=7) hPA rfl rfl) (hasC (Zeg 0 (i:=7) hPA rfl rfl) Zaa))<|Xu 10 (Xi 42 (.tmp 141) (.tmp 142) pb po P.s.length P.pn d 1 3 (d:Int) 143 underlying42)<|Xt [11,12] [(6,vp b2),(5,vp b1),(0,vp wb),(1,vi d),(136,.slice (sA pb po) P.s.length P.pn),(137,vi d),(145,vi (IntKind.i64.wrap (x.left-1)))] [(⟨pb,po+d*1,none⟩,vi x.left)] (hasC ((Zcz (wb:=wb) (c:=c) (P:=P) (w:=z) (E:=kE .i64) 4 rfl (by simp;omega) 0 rfl).cell hPA (i:=d) (j:=0) (x:=x.left) (by rw[List.getElem?_map,hx];rfl) rfl) Zaa) ?_;refine Xu 13 (Xi 42 (.tmp 136) (.tmp 137) pb po P.s.length P.pn d 1 3 (d:Int) 146 underlying42) ?_;rw[show IntKind.i64.wrap (x.left-1)=(x.left-1)by rw[w64 (by omega) (by omega)]];refine Yo 14 (Step.lens (Zam (l:=rwL wb c P z) 4 (by rw[←hPA]<;>rfl)) (Zju (v:=x.left-1) hx hok0 hPA (by omega)) (fun R=>ZdU (E:=kE .i64) (J:=d) (j:=0) x.left (x.left-1) (.int .i64 (x.left-1)) ⟨pb,po+d*1,none⟩ (fun _=>Kr) (by first|rfl|simp) (by rw[List.getElem?_map,hx];rfl) rfl (by decide))) ?_;refine Xd<|Xq<|Xy0 0 [12] 13<|At' [0,1,2,3,4,5,8,9,10,11] [(⟨wb,6,none⟩,.slice (sA xb xo) P.s.length P.bn),(⟨b1,1,none⟩,vi i),(⟨b1,2,none⟩,vi b)] (hasC (Zeg 0 (i:=6) hXA rfl rfl) (hasC (ba 2) (hasC (ba 2) Zaa)))<|Xu 6 (Xi 78 (.tmp 150) (.tmp 152) xb xo P.s.length P.bn i 1 155 (i:Int) 153 underlying78)<|At' [7] [(⟨xb,xo+i*1,none⟩,vp q.x)] (hasC ((Zcz (E:=bpE) 3 rfl (by simp) 0 rfl).cell hXA (i:=i) (j:=0) (x:=q.x) (by rw[List.getElem?_map,hq];rfl) rfl) Zaa) ?_;refine Yo 12 (Xa (some 159) _ (hpt _))<|Xd<|Xq<|Xg 2<|Br 1 1<|Xh0 ?_ 1 1;refine Bs 0 (Xz [(0,vi 0),(1,vi 0),(2,vi 0)])<|endR<|Xv<|Zae<|Zab<|dB 0 (.agg #[.int .i64 0,.int .i64 0,.int .i64 0]) (fun w hs=>?_);exact⟨(),by rw[he],by rw[he,Zq4,Zbj hy];exact Sat.erase 1 rfl hs.tail⟩
    ·have he:ZcM c z d op a b=((Zah c (d:Int) a,0,0),z):=by rw[he11,Zcg,if_neg hf,ZaK,if_neg hf]
     refine Xq<|Xq<|Xy0 0 [] 9<|At' [0,1,2,3,4,5,6] [(⟨wb,0,none⟩,vi c.frame),(⟨wb,1,none⟩,vi c.epoch),(⟨wb,2,none⟩,.slice c.plans.a c.plans.l.length c.plans.c),(⟨wb,3,none⟩,.slice c.domains.a c.domains.l.length c.domains.c),(⟨b1,1,none⟩,vi a)] (hasC (ZaE 2 (i:=0) rfl rfl) (hasC (ZaE 2 (i:=1) rfl rfl) (hasC (ZaE 2 (i:=2) rfl rfl) (hasC (ZaE 2 (i:=3) rfl rfl) (hasC (ba 1) Zaa)))))<|Yo 7 (Xa (some 119) _ (Zez _ c hk.up.up.up d y9 hy9 a))<|At' [8] [] Zaa<|Xd (Xq (Xg 2 (Ce [(6,vp b2),(5,vp b1),(0,vp wb),(1,vi d),(12,vi (Zah c (d:Int) a)),(121,.bool ((Zah c (d:Int) a) !=0))] ?_)));rw[show((Zah c (d:Int) a) !=0)=true from by simp[hf]];refine cT<|Xq<|Xg 3<|Br 1 2<|Bs 0 (Xz [(0,vi (Zah c (d:Int) a)),(1,vi 0),(2,vi 0)])<|endR<|Xv<|Zab<|Zae<|Zab<|dB 0 (.agg #[.int .i64 (Zah c (d:Int) a),.int .i64 0,.int .i64 0]) (fun w hs=>?_);exact⟨(),by rw[he],by rw[he];exact hs.tail.tail⟩
   ·have hn11:op≠11:=beq_eq_false_iff_ne.1 h11;refine Xq<|Xg 2<|Be<|Xc (op==12) (fun h12=>?_) (fun h12=>?_)
    ·have he12:ZcM c z d op a b=(ZaK (Zca z d).1,(Zca z d).2):=by rw[ZcM,if_neg hn9,if_neg hn10,if_neg hn11,if_pos (eq_of_beq h12)]
     have hc:=fun H=>Zrr (wb:=wb) (c:=c) (X:=fun _:Unit=> []) (k':=fun _=>ZbS x.b) hp hx (fun H=>Zmi H p.x x.b) H
     simp only[List.nil_append]at hc;refine Xq<|Xg 14<|Bl 9 5 [(⟨wb,6,none⟩,.slice (sA xb xo) P.s.length P.bn)] (hasC (Zeg 2 (i:=6) hXA rfl rfl) Zaa)<|Bs 8 (Zav (Xi 78 (.tmp 167) (.tmp 168) xb xo P.s.length P.bn d 1 155 (d:Int) 169 underlying78))<|Bl 7 1 [(⟨xb,xo+d*1,none⟩,vp p.x)] (hasC ((Zcz (E:=bpE) 3 rfl (by simp) 2 rfl).cell hXA (i:=d) (j:=0) (x:=p.x) (by rw[List.getElem?_map,hp];rfl) rfl) Zaa) ?_;refine Bs 6 (Xa (some 171) _ (Zak 2 rfl (hc _)))<|Br 3 3<|Bx 2 (Xn 254 [vi 0,vi 0] (some 13) (fun b=>vp b)) fun b3=>Bs 1 (Xz [(0,vi ((Zbo x.b).1.1)),(1,vi ((Zbo x.b).1.2))])<|Be<|Xq (Xq (Xg 2 (Ce [(13,vp b3),(6,vp b2),(175,.bool (!((Zbo x.b).2)))] ?_)))
     cases h1:((Zbo x.b).2)with
     |true=>
      have he:ZcM c z d op a b=((0,(Zbo x.b).1.1,(Zbo x.b).1.2),wUp z d {x with b:=ZbS x.b}):=by rw[he12,Zca,hsd,if_pos h1];rfl
      refine cF<|Xk<|Xq<|Xg 6<|Bl 1 5 [(⟨b3,0,none⟩,vi ((Zbo x.b).1.1)),(⟨b3,1,none⟩,vi ((Zbo x.b).1.2))] (hasC (ba 0) (hasC (ba 0) Zaa))<|Xh0 ?_ 1 1;refine Bs 0 (Xz [(0,vi 0),(1,vi ((Zbo x.b).1.1)),(2,vi ((Zbo x.b).1.2))])<|endR<|Xv<|Zae<|Zab<|dB 0 (.agg #[.int .i64 0,.int .i64 ((Zbo x.b).1.1),.int .i64 ((Zbo x.b).1.2)]) (fun w hs=>?_);exact⟨(),by rw[he],by rw[he];exact hs.tail.tail.tail⟩
     |false=>
      have he:ZcM c z d op a b=((13,0,0),z):=by rw[he12,Zca,hsd,if_neg (by rw[h1];simp)];rfl
      have hnil:x.b.l=[]:=by unfold Zbo at h1;split at h1<;>simp_all
      have hbt:ZbS x.b=x.b:=by unfold ZbS;rw[hnil];cases hb:x.b;rw[hb]at hnil;simp only at hnil;rw[hnil];rfl
      refine cT<|Xq<|Xg 2<|Br 1 1<|Xh0 ?_ 1 1;refine Bs 0 (Xz [(0,vi 13),(1,vi 0),(2,vi 0)])<|endR<|Xv<|Zab<|Zae<|Zab<|dB 0 (.agg #[.int .i64 13,.int .i64 0,.int .i64 0]) (fun w hs=>?_);exact⟨(),by rw[he],by rw[he];rw[hbt,show({x with b:=x.b}:SdS)=x from rfl,Zb9 hx]at hs;exact hs.tail.tail.tail⟩
    ·have hn12:op≠12:=beq_eq_false_iff_ne.1 h12;refine Xq<|Xg 2<|Be<|Xc (op==13) (fun h13=>?_) (fun h13=>?_)
     ·have he13:ZcM c z d op a b=(ZaK ((0,0),(ZbH c z d a).1),(ZbH c z d a).2):=by rw[ZcM,if_neg hn9,if_neg hn10,if_neg hn11,if_neg hn12,if_pos (eq_of_beq h13)]
      refine Xq<|Xq<|Xy0 0 [] 9<|At' [0,1,2,3,4,5,6] [(⟨wb,0,none⟩,vi c.frame),(⟨wb,1,none⟩,vi c.epoch),(⟨wb,2,none⟩,.slice c.plans.a c.plans.l.length c.plans.c),(⟨wb,3,none⟩,.slice c.domains.a c.domains.l.length c.domains.c),(⟨b1,1,none⟩,vi a)] (hasC (ZaE 2 (i:=0) rfl rfl) (hasC (ZaE 2 (i:=1) rfl rfl) (hasC (ZaE 2 (i:=2) rfl rfl) (hasC (ZaE 2 (i:=3) rfl rfl) (hasC (ba 1) Zaa)))))<|Yo 7 (Xa (some 191) _ (Zgk _ c hk.up.up.up d y9 hy9 a))<|At' [8] [] Zaa<|Xd (Xq (Xg 2 (Ce [(6,vp b2),(5,vp b1),(0,vp wb),(1,vi d),(15,vi (ZaM c (d:Int) a)),(193,.bool ((ZaM c (d:Int) a) !=0))] ?_)));by_cases hf:ZaM c (d:Int) a=0
      ·have he:ZcM c z d op a b=(ZaK ((0,0),(ZaI c z.t d a).1),{z with t:=(ZaI c z.t d a).2}):=by rw[he13,ZbH,if_pos hf]
       rw[show((ZaM c (d:Int) a) !=0)=false from by simp[hf]];refine cF<|Xk (Xq (Xy (fun w=>Sat w (blk b1 35 [vi op,vi a,vi b]::Zeh wb c P::H)) [] 10 ?_ (hS:=fun _ h=>by repeat first|exact ZdE h|exact h|replace h:=Sat.tail h)));refine At' [0,1,2,3,4,5,6] [(⟨wb,10,none⟩,vp P.t),(⟨b1,1,none⟩,vi a)] (hasC (Zmm 1 (i:=10) rfl rfl) (hasC (ba 0) Zaa)) ?_ (hS:=fun _ h=>by repeat first|exact ZdE h|exact h|replace h:=Sat.tail h);refine Yo 7 (Xa (some 203) _ (Zak 2 rfl (hcL _ hk.up.up))) ?_ (hS:=fun _ _ h hn=>by first|exact absurd hn (by decide)|repeat first|exact h|exact ZdE h|replace h:=Sat.tail h);refine At' [8] [] Zaa ?_ (hS:=fun _ h=>by repeat first|exact ZdE h|exact h|replace h:=Sat.tail h);refine Yo 9 (Xz [(0,vi ((ZaI c z.t d a).1)),(1,vi 0),(2,vi 0)]) ?_ (hS:=fun _ _ h hn=>by first|exact absurd hn (by decide)|repeat first|exact h|exact ZdE h|replace h:=Sat.tail h);refine Xd<|Xv<|Zae<|Zab<|dB 0 (.agg #[.int .i64 ((ZaI c z.t d a).1),.int .i64 0,.int .i64 0]) (fun w hs=>?_);exact⟨(),by rw[he,Zij],by rw[he];exact hs.tail.tail⟩
      ·have he:ZcM c z d op a b=((ZaM c (d:Int) a,0,0),z):=by rw[he13,ZbH,if_neg hf,ZaK,if_neg hf]
       rw[show((ZaM c (d:Int) a) !=0)=true from by simp[hf]];refine cT<|Xq<|Xg 3<|Br 1 2<|Bs 0 (Xz [(0,vi (ZaM c (d:Int) a)),(1,vi 0),(2,vi 0)])<|endR<|Xv<|Zab<|Zae<|Zab<|dB 0 (.agg #[.int .i64 (ZaM c (d:Int) a),.int .i64 0,.int .i64 0]) (fun w hs=>?_);exact⟨(),by rw[he],by rw[he];exact hs.tail.tail⟩
     ·have hn13:op≠13:=beq_eq_false_iff_ne.1 h13;refine Xq<|Xg 2<|Be<|Xc (op==14) (fun h14=>?_) (fun h14=>?_)
      ·have he14:ZcM c z d op a b=(ZaK ((0,0),(ZcF c z d a).1),(ZcF c z d a).2):=by rw[ZcM,if_neg hn9,if_neg hn10,if_neg hn11,if_neg hn12,if_neg hn13,if_pos (eq_of_beq h14)]
       refine Xq<|Xq<|Xy0 0 [] 9<|At' [0,1,2,3,4,5,6] [(⟨wb,0,none⟩,vi c.frame),(⟨wb,1,none⟩,vi c.epoch),(⟨wb,2,none⟩,.slice c.plans.a c.plans.l.length c.plans.c),(⟨wb,3,none⟩,.slice c.domains.a c.domains.l.length c.domains.c),(⟨b1,1,none⟩,vi a)] (hasC (ZaE 2 (i:=0) rfl rfl) (hasC (ZaE 2 (i:=1) rfl rfl) (hasC (ZaE 2 (i:=2) rfl rfl) (hasC (ZaE 2 (i:=3) rfl rfl) (hasC (ba 1) Zaa)))))<|Yo 7 (Xa (some 214) _ (Zha _ c hk.up.up.up (by omega) d y9 hy9 a))<|At' [8] [] Zaa<|Xd (Xq (Xg 2 (Ce [(6,vp b2),(5,vp b1),(0,vp wb),(16,vi (Zbb c (d:Int) a)),(216,.bool ((Zbb c (d:Int) a) !=0))] ?_)));by_cases hf:Zbb c (d:Int) a=0
       ·have he:ZcM c z d op a b=(ZaK ((0,0),(ZaW z.t c.plans.l.length a).1),{z with t:=(ZaW z.t c.plans.l.length a).2}):=by rw[he14,ZcF,if_pos hf]
        rw[show((Zbb c (d:Int) a) !=0)=false from by simp[hf]];refine cF<|Xk (Xq (Xy (fun w=>Sat w (blk b1 35 [vi op,vi a,vi b]::Zeh wb c P::H)) [] 9 ?_ (hS:=fun _ h=>by repeat first|exact ZdE h|exact h|replace h:=Sat.tail h)));refine At' [0,1,2,3,4,5] [(⟨wb,10,none⟩,vp P.t),(⟨b1,1,none⟩,vi a)] (hasC (Zmm 1 (i:=10) rfl rfl) (hasC (ba 0) Zaa)) ?_ (hS:=fun _ h=>by repeat first|exact ZdE h|exact h|replace h:=Sat.tail h);refine Yo 6 (Xa (some 225) _ (Zak 2 rfl (hcP _))) ?_ (hS:=fun _ _ h hn=>by first|exact absurd hn (by decide)|repeat first|exact h|exact ZdE h|replace h:=Sat.tail h);refine At' [7] [] Zaa ?_ (hS:=fun _ h=>by repeat first|exact ZdE h|exact h|replace h:=Sat.tail h);refine Yo 8 (Xz [(0,vi ((ZaW z.t c.plans.l.length a).1)),(1,vi 0),(2,vi 0)]) ?_ (hS:=fun _ _ h hn=>by first|exact absurd hn (by decide)|repeat first|exact h|exact ZdE h|replace h:=Sat.tail h);refine Xd<|Xv<|Zae<|Zab<|dB 0 (.agg #[.int .i64 ((ZaW z.t c.plans.l.length a).1),.int .i64 0,.int .i64 0]) (fun w hs=>?_);exact⟨(),by rw[he,Zij],by rw[he];exact hs.tail.tail⟩
       ·have he:ZcM c z d op a b=((Zbb c (d:Int) a,0,0),z):=by rw[he14,ZcF,if_neg hf,ZaK,if_neg hf]
        rw[show((Zbb c (d:Int) a) !=0)=true from by simp[hf]];refine cT<|Xq<|Xg 3<|Br 1 2<|Bs 0 (Xz [(0,vi (Zbb c (d:Int) a)),(1,vi 0),(2,vi 0)])<|endR<|Xv<|Zab<|Zae<|Zab<|dB 0 (.agg #[.int .i64 (Zbb c (d:Int) a),.int .i64 0,.int .i64 0]) (fun w hs=>?_);exact⟨(),by rw[he],by rw[he];exact hs.tail.tail⟩
      ·have hn14:op≠14:=beq_eq_false_iff_ne.1 h14;have he:ZcM c z d op a b=((16,0,0),z):=by rw[ZcM,if_neg hn9,if_neg hn10,if_neg hn11,if_neg hn12,if_neg hn13,if_neg hn14]
       refine Xk<|Xq<|Xg 2<|Br 1 1<|Bs 0 (Xz [(0,vi 16),(1,vi 0),(2,vi 0)])<|endR<|Xv<|dB 0 (.agg #[.int .i64 16,.int .i64 0,.int .i64 0]) (fun w hs=>?_);exact⟨(),by rw[he],by rw[he];exact hs.tail.tail⟩
theorem ZiW {s:KS}(h:KOk s)(par wt:Int)(he:(Zau s par wt).1.2≠0):(Zau s par wt).1.1=0:=by
 by_cases c:(ZaB s par wt s.mt true).1.2=0
 ·obtain⟨e1,e2,e3,_⟩:=ZjM c
  have hok:=(ZeM h par wt s.mt true rfl).1;rcases add_cases s.N par s.nx wt true with⟨e,he2,h1⟩|⟨p,hp,hno,h1⟩
  ·rw[h1]at e3;exact absurd e3 he2
  ·obtain⟨_,p2⟩:=Zmn (N:=s.N) (n:=⟨s.nx,par,wt,p.now,true,false,0⟩) hno rfl (by show s.nx≠0;have:=h.nx;omega)
   rw[e2,h1]at hok;have q1:=(Zdd hok.wf.sk (k:=s.nx) (by show isT (s.N++_) _=true;rw[p2];simp) true).1;exfalso;apply he;unfold Zau;rw[if_neg (by rw[c];simp),e1,e2,h1];exact q1
 ·unfold Zau;rw[if_pos c]
theorem Zi1 {s:KS}(par wt:Int)(he:(ZaC s par wt).1.2≠0):(ZaC s par wt).1.1=0:=by
 unfold ZaC ZaB at he ⊢
 repeat' split
 all_goals first|rfl|skip
 rename_i c1 c2 c3 c4;rw[if_neg c1,if_neg c2,if_neg c3,if_neg c4]at he;exact absurd rfl he
theorem kwait_code {s:KS}(id j:Int)(he:(ZaJ s id j).1.2≠0):(ZaJ s id j).1.1=false:=by
 unfold ZaJ Zaj at he ⊢
 repeat' split
 all_goals first|rfl|skip
 all_goals simp_all
def sOf (x:(Int×Int)×Int):Int×Int×Int:=(x.2,x.1.1,x.1.2)
theorem Zpb {x:(Int×Int)×Int}(h:x.2≠0→x.1=(0,0)):ZaK x=sOf x:=by
 unfold ZaK sOf;split
 ·rename_i e;rw[e]
 ·rename_i e;rw[h e]
theorem Zqf (c:ConfV)(z:WS)(tick:Int)(d:Nat)(x:SdS)(hx:z.s[d]? =some x)(th op a b:Int)(h1:op≠1)(h2:op≠2)(h3:op≠3)(h4:op≠4)(h5:op≠5)(h6:op≠6)(h7:op≠7)(h8:op≠8):ZcM c z d op a b=(ZaK (Zan c z tick d th op a b).1,(Zan c z tick d th op a b).2):=by
 unfold ZcM Zan;rw[if_neg h8];by_cases h9:op=9
 ·rw[if_pos h9,if_pos h9]
 rw[if_neg h9,if_neg h9];by_cases h10:op=10
 ·rw[if_pos h10,if_pos h10]
 rw[if_neg h10,if_neg h10];by_cases h11:op=11
 ·rw[if_pos h11,if_pos h11]
 rw[if_neg h11,if_neg h11];by_cases h12:op=12
 ·rw[if_pos h12,if_pos h12]
 rw[if_neg h12,if_neg h12];by_cases h13:op=13
 ·rw[if_pos h13,if_pos h13]
 rw[if_neg h13,if_neg h13];by_cases h14:op=14
 ·rw[if_pos h14,if_pos h14]
 rw[if_neg h14,if_neg h14];have e:ZcB (ZbJ z d).k tick th op a b=((0,16),(ZbJ z d).k):=by rw[ZcB,if_neg h1,if_neg h2,if_neg h3,if_neg h4,if_neg h5,if_neg h6,if_neg h7]
 rw[e,Zbj hx];rw[show({x with k:=x.k}:SdS)=x from rfl,Zb9 hx];rfl
theorem Zfk (c:ConfV)(z:WS)(tick:Int)(d:Nat)(x:SdS)(hx:z.s[d]? =some x)(th op a b:Int)(h:op<8):Zan c z tick d th op a b=((((ZcB x.k tick th op a b).1.1,0),(ZcB x.k tick th op a b).1.2),wUp z d {x with k:=(ZcB x.k tick th op a b).2}):=by
 unfold Zan;rw[if_neg (by omega),if_neg (by omega),if_neg (by omega),if_neg (by omega),if_neg (by omega),if_neg (by omega),if_neg (by omega),Zbj hx]
theorem Zl7 (H :List SP) (wb:Nat) (c:ConfV) (P:RWP) (z:WS) (hk:KC H c) (hcl:c.domains.l.length≤6) (hb:∀y∈z.s,y.b.l.length<100000) (d:Nat) (p:RdP) (x:SdS) (hp:P.s[d]? =some p) (hx:z.s[d]? =some x) (hdl:d<c.domains.l.length) (hid:x.k.nx≤1099511627776) (tick th op a b:Int):U0 74 #[vp wb,vi tick,vi d,vi th,.agg #[vi op,vi a,vi b]] (rwS wb c P z::H) (.agg #[vi (ZaK (Zan c z tick d th op a b).1).1,vi (ZaK (Zan c z tick d th op a b).1).2.1,vi (ZaK (Zan c z tick d th op a b).1).2.2]) (rwS wb c P (Zan c z tick d th op a b).2::H):=by
 have hsd:=Zbj hx;have hac:=fun H=>Zp1 (wb:=wb) (c:=c) (P:=P) (w:=z) (ι:=Unit) (l':=fun _=>z.l) (fun H=>Zjy H P.l z.l (d:Int)) H
 have hspawn:=fun H=>Zgf (wb:=wb) (c:=c) (P:=P) (X:=fun _:Unit=> []) (k':=fun _=>(Zau x.k a b).2) hp hx (fun H=>Zp8 H p.k p.t x.k hid a b) H
 have hgroup:=fun H=>Zgf (wb:=wb) (c:=c) (P:=P) (X:=fun _:Unit=> []) (k':=fun _=>(ZaC x.k a b).2) hp hx (fun H=>Zqb H p.k p.t x.k hid a b) H
 have hexit:=fun H=>Zgf (wb:=wb) (c:=c) (P:=P) (X:=fun _:Unit=> []) (k':=fun _=>(Zbn x.k th).2) hp hx (fun H=>Zry H p.k p.t x.k th) H
 have hsleep:=fun H=>Zgf (wb:=wb) (c:=c) (P:=P) (X:=fun _:Unit=> []) (k':=fun _=>(ZaY x.k th (IntKind.i64.wrap (IntKind.i64.wrap (tick+1)+a))).2) hp hx (fun H=>Zp9 H p.k p.t x.k th (IntKind.i64.wrap (IntKind.i64.wrap (tick+1)+a))) H
 have hwait:=fun H=>Zgf (wb:=wb) (c:=c) (P:=P) (X:=fun _:Unit=> []) (k':=fun _=>(ZaJ x.k th a).2) hp hx (fun H=>Zrw H p.k p.t x.k th a) H
 have hsig:=fun H=>Zgf (wb:=wb) (c:=c) (P:=P) (X:=fun _:Unit=> []) (k':=fun _=>(ZaA x.k a).2) hp hx (fun H=>Zn9 H p.k p.t x.k a) H
 have hweight:=fun H=>Zgf (wb:=wb) (c:=c) (P:=P) (X:=fun _:Unit=> []) (k':=fun _=>(Za9 x.k a b).2) hp hx (fun H=>Zmc H p.k p.t x.k a b) H
 simp only[List.nil_append]at hweight hspawn hgroup hexit hsleep hwait hsig;refine eG func74 129 ?_;refine PT.know (ZgW 0 rfl) ?_;intro hok0;have hok1:=hok0;obtain⟨⟨hn1,hn2,hn6⟩,hok⟩:=hok1;refine PT.know (rw_led 0 rfl) ?_;intro hled;refine PT.know (ZlY 0 hp hx rfl) ?_;intro hkok;refine PT.know (Zci (Zcz (wb:=wb) (c:=c) (P:=P) (w:=z) (E:=bpE) 1 rfl (by simp) 0 rfl) (d:=d) (by rw[List.getElem?_map,hp];rfl)) ?_;rintro⟨kb,ko,hKA⟩;refine Xq<|Xg 2<|Bx 1 (Xn 35 [vi op,vi a,vi b] (some 9) (fun b=>vp b)) fun b1=>Bx 0 (Xn 31 [vi 0,vi 0,vi 0] (some 10) (fun b=>vp b)) fun b2=>endR<|Xq<|Xg 8<|Bl 3 5 [(⟨wb,4,none⟩,.slice (sA kb ko) P.s.length P.kn)] (hasC (up (up (Zeg 0 (i:=4) hKA rfl rfl))) Zaa)<|Bs 2 (Zav (Xi 76 (.tmp 22) (.tmp 23) kb ko P.s.length P.kn d 1 75 (d:Int) 24 underlying76))<|Bm [(⟨kb,ko+d*1,none⟩,vp p.k)] (hasC (up (up ((Zcz (wb:=wb) (c:=c) (P:=P) (w:=z) (E:=bpE) 1 rfl (by simp) 0 rfl).cell hKA (i:=d) (j:=0) (x:=p.k) (by rw[List.getElem?_map,hp];rfl) rfl))) Zaa) ?_
 refine Xq<|Xq<|Xg 2<|Bm [(⟨b1,0,none⟩,vi op)] (hasC (ba 1) Zaa)<|Xb 0<|Xq<|Xg 2<|Be<|Xc (op==1) (fun g1=>?_) (fun g1=>?_)
 ·have hd:=Zfk c z tick d x hx th op a b (by rw[eq_of_beq g1];decide);have he:ZcB x.k tick th op a b=(((Zau x.k a b).1.1,(Zau x.k a b).1.2),(Zau x.k a b).2):=by rw[eq_of_beq g1]<;>rfl
  refine Xq<|Xg 11<|Bl 6 5 [(⟨b1,1,none⟩,vi a),(⟨b1,2,none⟩,vi b)] (hasC (ba 1) (hasC (ba 1) Zaa))<|Bs 5 (Xa (some 36) _ (Zak 2 rfl (hspawn _)))<|Be<|Xq<|Xg 4<|Br 1 3<|Bs 0 (Xz [(0,vi ((Zau x.k a b).1.2)),(1,vi ((Zau x.k a b).1.1)),(2,vi 0)])<|endR<|Xv<|Zae<|Zab<|dB 0 (.agg #[.int .i64 ((Zau x.k a b).1.2),.int .i64 ((Zau x.k a b).1.1),.int .i64 0]) (fun w hs=>?_);exact⟨(),by rw[hd,he,Zpb (fun h=>by simp only at h ⊢;rw[ZiW hkok a b h])]<;>rfl,by rw[hd,he];exact hs.tail.tail⟩
 ·refine Xq<|Xg 2<|Be<|Xc (op==2) (fun g2=>?_) (fun g2=>?_)
  ·have hd:=Zfk c z tick d x hx th op a b (by rw[eq_of_beq g2];decide);have he:ZcB x.k tick th op a b=(((ZaC x.k a b).1.1,(ZaC x.k a b).1.2),(ZaC x.k a b).2):=by rw[eq_of_beq g2]<;>rfl
   refine Xq<|Xg 11<|Bl 6 5 [(⟨b1,1,none⟩,vi a),(⟨b1,2,none⟩,vi b)] (hasC (ba 1) (hasC (ba 1) Zaa))<|Bs 5 (Xa (some 50) _ (Zak 2 rfl (hgroup _)))<|Be<|Xq<|Xg 4<|Br 1 3<|Bs 0 (Xz [(0,vi ((ZaC x.k a b).1.2)),(1,vi ((ZaC x.k a b).1.1)),(2,vi 0)])<|endR<|Xv<|Zae<|Zab<|dB 0 (.agg #[.int .i64 ((ZaC x.k a b).1.2),.int .i64 ((ZaC x.k a b).1.1),.int .i64 0]) (fun w hs=>?_);exact⟨(),by rw[hd,he,Zpb (fun h=>by simp only at h ⊢;rw[Zi1 a b h])]<;>rfl,by rw[hd,he];exact hs.tail.tail⟩
  ·refine Xq<|Xg 2<|Be<|Xc (op==3) (fun g3=>?_) (fun g3=>?_)
   ·have hd:=Zfk c z tick d x hx th op a b (by rw[eq_of_beq g3];decide);have he:ZcB x.k tick th op a b=((0,(Zbn x.k th).1),(Zbn x.k th).2):=by rw[eq_of_beq g3]<;>rfl
    refine Xq<|Xg 5<|Br 3 2<|Bs 2 (Xa (some 60) _ (Zak 2 rfl (hexit _)))<|Br 1 1<|Bs 0 (Xz [(0,vi ((Zbn x.k th).1)),(1,vi 0),(2,vi 0)])<|endR<|Xv<|Zae<|Zab<|dB 0 (.agg #[.int .i64 ((Zbn x.k th).1),.int .i64 0,.int .i64 0]) (fun w hs=>?_);exact⟨(),by rw[hd,he,Zij],by rw[hd,he];exact hs.tail.tail⟩
   ·refine Xq<|Xg 2<|Be<|Xc (op==4) (fun g4=>?_) (fun g4=>?_)
    ·have hd:=Zfk c z tick d x hx th op a b (by rw[eq_of_beq g4];decide);refine Xq<|Xq<|Xg 3<|Bm [(⟨b1,1,none⟩,vi a)] (hasC (ba 1) Zaa)<|Xc (decide (a>1000)) (fun hl=>?_) (fun hl=>?_)
     ·have he:ZcB x.k tick th op a b=((0,12),x.k):=by rw[eq_of_beq g4,ZcB,if_neg (by decide),if_neg (by decide),if_neg (by decide),if_pos rfl,if_pos (of_decide_eq_true hl)]
      refine Xq<|Xg 2<|Br 1 1<|Bs 0 (Xz [(0,vi 12),(1,vi 0),(2,vi 0)])<|endR<|Xv<|Zab<|Zae<|Zab<|dB 0 (.agg #[.int .i64 12,.int .i64 0,.int .i64 0]) (fun w hs=>?_);exact⟨(),by rw[hd,he]<;>rfl,by rw[hd,he,show({x with k:=x.k}:SdS)=x from rfl,Zb9 hx];exact hs.tail.tail⟩
     ·have he:ZcB x.k tick th op a b=((0,(ZaY x.k th (IntKind.i64.wrap (IntKind.i64.wrap (tick+1)+a))).1),(ZaY x.k th (IntKind.i64.wrap (IntKind.i64.wrap (tick+1)+a))).2):=by rw[eq_of_beq g4,ZcB,if_neg (by decide),if_neg (by decide),if_neg (by decide),if_pos rfl,if_neg (of_decide_eq_false hl)]
      refine Xk<|Xq<|Xg 10<|Bl 3 7 [(⟨b1,1,none⟩,vi a)] (hasC (ba 1) Zaa)<|Bs 2 (Xa (some 75) _ (Zak 2 rfl (hsleep _)))<|Br 1 1<|Bs 0 (Xz [(0,vi ((ZaY x.k th (IntKind.i64.wrap (IntKind.i64.wrap (tick+1)+a))).1)),(1,vi 0),(2,vi 0)])<|endR<|Xv<|Zae<|Zab<|dB 0 (.agg #[.int .i64 ((ZaY x.k th (IntKind.i64.wrap (IntKind.i64.wrap (tick+1)+a))).1),.int .i64 0,.int .i64 0]) (fun w hs=>?_);exact⟨(),by rw[hd,he,Zij],by rw[hd,he];exact hs.tail.tail⟩
    ·refine Xq<|Xg 2<|Be<|Xc (op==5) (fun g5=>?_) (fun g5=>?_)
     ·have hd:=Zfk c z tick d x hx th op a b (by rw[eq_of_beq g5];decide);have he:ZcB x.k tick th op a b=((if(ZaJ x.k th a).1.1=true then 1 else 0,(ZaJ x.k th a).1.2),(ZaJ x.k th a).2):=by rw[eq_of_beq g5]<;>rfl
      refine Xq<|Xg 10<|Bl 6 4 [(⟨b1,1,none⟩,vi a)] (hasC (ba 1) Zaa)<|Bs 5 (Xa (some 84) _ (Zak 2 rfl (hwait _)))<|Be<|Xq (Xq (Xg 1 (Ce [(10,vp b2),(9,vp b1),(0,vp wb),(2,vi d),(17,vi ((ZaJ x.k th a).1.2)),(87,.bool ((ZaJ x.k th a).1.1))] ?_)));cases hw:((ZaJ x.k th a).1.1)with
      | true=>
       have hz:(ZaJ x.k th a).1.2=0:=by
        by_cases hc:(ZaJ x.k th a).1.2=0
        ·exact hc
        ·rw[kwait_code th a hc]at hw;cases hw
       refine cT<|Xq<|Xg 3<|Br 1 2<|Bs 0 (Xz [(0,vi ((ZaJ x.k th a).1.2)),(1,vi 1),(2,vi 0)])<|endR<|Xv<|Zab<|Zae<|Zab<|dB 0 (.agg #[.int .i64 ((ZaJ x.k th a).1.2),.int .i64 1,.int .i64 0]) (fun w hs=>?_);exact⟨(),by rw[hd,he,if_pos hw,hz]<;>rfl,by rw[hd,he];exact hs.tail.tail⟩
      |false=>
       refine cF<|Xk<|Xq<|Xg 3<|Br 1 2<|Bs 0 (Xz [(0,vi ((ZaJ x.k th a).1.2)),(1,vi 0),(2,vi 0)])<|endR<|Xv<|Zae<|Zab<|dB 0 (.agg #[.int .i64 ((ZaJ x.k th a).1.2),.int .i64 0,.int .i64 0]) (fun w hs=>?_);exact⟨(),by rw[hd,he,if_neg (by rw[hw];simp),Zij],by rw[hd,he];exact hs.tail.tail⟩
     ·refine Xq<|Xg 2<|Be<|Xc (op==6) (fun g6=>?_) (fun g6=>?_)
      ·have hd:=Zfk c z tick d x hx th op a b (by rw[eq_of_beq g6];decide);have he:ZcB x.k tick th op a b=((0,(ZaA x.k a).1),(ZaA x.k a).2):=by rw[eq_of_beq g6]<;>rfl
       refine Xq<|Xg 6<|Bl 3 3 [(⟨b1,1,none⟩,vi a)] (hasC (ba 1) Zaa)<|Bs 2 (Xa (some 97) _ (Zak 2 rfl (hsig _)))<|Br 1 1<|Bs 0 (Xz [(0,vi ((ZaA x.k a).1)),(1,vi 0),(2,vi 0)])<|endR<|Xv<|Zae<|Zab<|dB 0 (.agg #[.int .i64 ((ZaA x.k a).1),.int .i64 0,.int .i64 0]) (fun w hs=>?_);exact⟨(),by rw[hd,he,Zij],by rw[hd,he];exact hs.tail.tail⟩
      ·refine Xq<|Xg 2<|Be<|Xc (op==7) (fun g7=>?_) (fun g7=>?_)
       ·have hd:=Zfk c z tick d x hx th op a b (by rw[eq_of_beq g7];decide);have he:ZcB x.k tick th op a b=((0,(Za9 x.k a b).1),(Za9 x.k a b).2):=by rw[eq_of_beq g7]<;>rfl
        refine Xq (Xy (fun w=>Sat w (blk b1 35 [vi op,vi a,vi b]::Zeh wb c P::H)) [] 11 ?_ (hS:=fun _ h=>by repeat first|exact ZdE h|exact h|replace h:=Sat.tail h));refine At' [0,1,2,3,4,5,6,7] [(⟨p.k,0,none⟩,vp p.t),(⟨b1,1,none⟩,vi a),(⟨b1,2,none⟩,vi b)] (hasC (Zml 1 hp rfl) (hasC (ba 0) (hasC (ba 0) Zaa))) ?_ (hS:=fun _ h=>by repeat first|exact ZdE h|exact h|replace h:=Sat.tail h);refine Yo 8 (Xa (some 109) _ (Zak 2 rfl (hweight _))) ?_ (hS:=fun _ _ h hn=>by first|exact absurd hn (by decide)|repeat first|exact h|exact ZdE h|replace h:=Sat.tail h);refine At' [9] [] Zaa ?_ (hS:=fun _ h=>by repeat first|exact ZdE h|exact h|replace h:=Sat.tail h);refine Yo 10 (Xz [(0,vi ((Za9 x.k a b).1)),(1,vi 0),(2,vi 0)]) ?_ (hS:=fun _ _ h hn=>by first|exact absurd hn (by decide)|repeat first|exact h|exact ZdE h|replace h:=Sat.tail h);refine Xd<|Xv<|Zae<|Zab<|dB 0 (.agg #[.int .i64 ((Za9 x.k a b).1),.int .i64 0,.int .i64 0]) (fun w hs=>?_);exact⟨(),by rw[hd,he,Zij],by rw[hd,he];exact hs.tail.tail⟩
       ·refine Xq<|Xg 2<|Be<|Xc (op==8) (fun g8=>?_) (fun g8=>?_)
        ·have he:Zan c z tick d th op a b=(((ZgN z (d:Int),0),0),z):=by rw[eq_of_beq g8]<;>rfl
         obtain⟨⟨hi1,hi2⟩,⟨hi3,hi4⟩,_⟩:=ZiT hled (by decide) (d:Int);simp only[acK]at hi2 hi4;refine Xq<|Xg 8<|Bl 3 5 [(⟨wb,9,none⟩,vp P.l)] (hasC (ZaE 2 (i:=9) rfl rfl) Zaa)<|Bs 2 (Xa (some 118) _ (Zak 2 rfl (hac _)))<|Bx 1 (Xn 102 [vi 0,vi 0,vi 0,vi 0] (some 18) (fun b=>vp b)) fun b3=>Bs 0 (Xz [(0,vi ((ZaF z.l (d:Int)).own)),(1,vi ((ZaF z.l (d:Int)).got)),(2,vi ((ZaF z.l (d:Int)).idle)),(3,vi ((ZaF z.l (d:Int)).freed))])<|endR<|Xq<|Xg 7<|Cl 1 6 [(10,vp b2),(9,vp b1),(0,vp wb),(2,vi d),(124,.agg #[vi 0,vi (IntKind.i64.wrap (((ZaF z.l (d:Int)).own)+((ZaF z.l (d:Int)).got))),vi 0])] [(⟨b3,0,none⟩,vi ((ZaF z.l (d:Int)).own)),(⟨b3,1,none⟩,vi ((ZaF z.l (d:Int)).got))] (hasC (ba 0) (hasC (ba 0) Zaa))<|Xh0 ?_ 1 1
         refine Bs 0 (Xz [(0,vi 0),(1,vi (IntKind.i64.wrap (((ZaF z.l (d:Int)).own)+((ZaF z.l (d:Int)).got)))),(2,vi 0)])<|endR<|Xv (Zae (Zab ?_));rw[show IntKind.i64.wrap (((ZaF z.l (d:Int)).own)+((ZaF z.l (d:Int)).got))=(((ZaF z.l (d:Int)).own)+((ZaF z.l (d:Int)).got))by rw[w64 (by omega) (by omega)]];refine dB 0 (.agg #[.int .i64 0,.int .i64 (((ZaF z.l (d:Int)).own)+((ZaF z.l (d:Int)).got)),.int .i64 0]) (fun w hs=>?_);exact⟨(),by rw[he]<;>rfl,by rw[he];exact hs.tail.tail.tail⟩
        ·have ho:=Zqf c z tick d x hx th op a b (beq_eq_false_iff_ne.1 g1) (beq_eq_false_iff_ne.1 g2) (beq_eq_false_iff_ne.1 g3) (beq_eq_false_iff_ne.1 g4) (beq_eq_false_iff_ne.1 g5) (beq_eq_false_iff_ne.1 g6) (beq_eq_false_iff_ne.1 g7) (beq_eq_false_iff_ne.1 g8);refine Xk<|Xq<|Xg 5<|Bl 2 3 [(⟨b1,0,none⟩,vi op),(⟨b1,1,none⟩,vi a),(⟨b1,2,none⟩,vi b)] (hasC (ba 1) (hasC (ba 1) (hasC (ba 1) Zaa)))<|Bs 1 (Xa (some 128) _ (Zak 2 rfl (Zg0 _ wb c P z hk.up.up hcl hb d p x hp hx hdl op a b)))<|Bs 0 (Xz [(0,vi ((ZcM c z d op a b).1.1)),(1,vi ((ZcM c z d op a b).1.2.1)),(2,vi ((ZcM c z d op a b).1.2.2))])<|endR<|Xv<|dB 0 (.agg #[.int .i64 ((ZcM c z d op a b).1.1),.int .i64 ((ZcM c z d op a b).1.2.1),.int .i64 ((ZcM c z d op a b).1.2.2)]) (fun w hs=>?_);exact⟨(),by rw[ho],by rw[ho]at hs;exact hs.tail.tail⟩
theorem Zmk (H :List SP) (wb:Nat) (c:ConfV) (P:RWP) (z:WS) (hk:KC H c) (hcl:c.domains.l.length≤6) (hb:∀y∈z.s,y.b.l.length<100000) (d:Nat) (p:RdP) (x:SdS) (hp:P.s[d]? =some p) (hx:z.s[d]? =some x) (hdl:d<c.domains.l.length) (hid:x.k.nx≤1099511627776) (tick th op a b:Int):U0 36 #[vp wb,vi tick,vi d,vi th,.agg #[vi op,vi a,vi b]] (rwS wb c P z::H) (.tuple #[.agg #[vi (Zbt c z tick d th op a b).1.1.1,vi (Zbt c z tick d th op a b).1.1.2.1,vi (Zbt c z tick d th op a b).1.1.2.2],.bool (Zbt c z tick d th op a b).1.2]) (rwS wb c P (Zbt c z tick d th op a b).2::H):=by
 have hdl2:=(gSs hp).1;refine eG func36 47 ?_;refine PT.know (Zci (Zcz (wb:=wb) (c:=c) (P:=P) (w:=z) (E:=bpE) 2 rfl (by simp) 0 rfl) (d:=d) (by rw[List.getElem?_map,hp];rfl)) ?_;rintro⟨rb,ro,hRA⟩;refine Xq<|Xg 3<|Bx 2 (Xn 35 [vi op,vi a,vi b] (some 9) (fun b=>vp b)) fun b1=>Bx 1 (Xn 31 [vi 0,vi 0,vi 0] (some 10) (fun b=>vp b)) fun b2=>Be<|Xq<|Xq<|Xg 3<|Bm [(⟨b1,0,none⟩,vi op)] (hasC (ba 1) Zaa)<|Xc (op==0) (fun h1=>?_) (fun h1=>?_)
 ·have he:Zbt c z tick d th op a b=(((0,0,0),false),z):=by rw[Zbt,if_pos (eq_of_beq h1)]
  refine Xq<|Xg 3<|Br 2 1<|Bs 1 (Xz [(0,vi 0),(1,vi 0),(2,vi 0)])<|Be<|Xv<|Zab<|dB 0 (.tuple #[.agg #[.int .i64 0,.int .i64 0,.int .i64 0],.bool false]) (fun w hs=>?_);exact⟨(),by rw[he],by rw[he];exact hs.tail.tail⟩
 ·have h0:op≠0:=beq_eq_false_iff_ne.1 h1;refine Xk<|Xq<|Xg 8<|Bl 3 5 [(⟨b1,0,none⟩,vi op),(⟨b1,1,none⟩,vi a),(⟨b1,2,none⟩,vi b)] (hasC (ba 1) (hasC (ba 1) (hasC (ba 1) Zaa)))<|Bs 2 (Xa (some 22) _ (Zak 2 rfl (Zl7 _ wb c P z hk.up.up hcl hb d p x hp hx hdl hid tick th op a b))) ?_;obtain⟨y,hy⟩:∃y,(Zan c z tick d th op a b).2.s[d]? =some y:=⟨_,gEe (by rw[ZdO];exact(gSs hx).1)⟩
  have he:Zbt c z tick d th op a b=((ZaK (Zan c z tick d th op a b).1,true),Zdr (Zan c z tick d th op a b).2 d tick op (ZaK (Zan c z tick d th op a b).1).1):=by rw[Zbt,if_neg h0]
  have hadd:=fun H=>Zpc (wb:=wb) (c:=c) (P:=P) (X:=fun _:Unit=> []) (k':=fun _=>ZbT y.r tick op (ZaK (Zan c z tick d th op a b).1).1) hp hy (fun H=>Zn4 H p.r y.r tick op (ZaK (Zan c z tick d th op a b).1).1) H
  simp only[List.nil_append]at hadd;refine Bx 1 (Xn 31 [vi 0,vi 0,vi 0] (some 12) (fun b=>vp b)) fun b3=>Bs 0 (Xz [(0,vi ((ZaK (Zan c z tick d th op a b).1).1)),(1,vi ((ZaK (Zan c z tick d th op a b).1).2.1)),(2,vi ((ZaK (Zan c z tick d th op a b).1).2.2))])<|endR<|Xq<|Xq<|Xg 2<|Bm [(⟨b1,0,none⟩,vi op)] (hasC (ba 2) Zaa)<|Xb 0<|Xq<|Xq<|Xg 2<|Ce [(12,vp b3),(10,vp b2),(9,vp b1),(0,vp wb),(1,vi tick),(2,vi d),(11,.bool false),(24,vi op),(25,.bool (op==1))]<|Xj0 (fun(u:Unit)=> [(0,vp wb),(1,vi tick),(2,vi d),(9,vp b1),(10,vp b2),(11,.bool false),(12,vp b3),(24,vi op),(25,.bool (Zbc op))]) ?_ (fun u=>?_)
  ·refine Xc (op==1) (fun a1=>?_) (fun a1=>?_)
   ·have e:Zbc op=true:=by rw[eq_of_beq a1];rfl
    refine Xk ?_;rw[show(op==1)=(Zbc op)by rw[a1,e]];exact mA (())
   ·refine Xq<|Xg 2<|Ce [(12,vp b3),(10,vp b2),(9,vp b1),(0,vp wb),(1,vi tick),(2,vi d),(11,.bool false),(24,vi op),(25,.bool (op==2))]<|Xc (op==2) (fun a2=>?_) (fun a2=>?_)
    ·have e:Zbc op=true:=by rw[eq_of_beq a2];rfl
     refine Xk ?_;rw[show(op==2)=(Zbc op)by rw[a2,e]];exact mA (())
    ·refine Xq<|Xg 2<|Ce [(12,vp b3),(10,vp b2),(9,vp b1),(0,vp wb),(1,vi tick),(2,vi d),(11,.bool false),(24,vi op),(25,.bool (op==3))]<|Xc (op==3) (fun a3=>?_) (fun a3=>?_)
     ·have e:Zbc op=true:=by rw[eq_of_beq a3];rfl
      refine Xk ?_;rw[show(op==3)=(Zbc op)by rw[a3,e]];exact mA (())
     ·refine Xq<|Xg 2<|Ce [(12,vp b3),(10,vp b2),(9,vp b1),(0,vp wb),(1,vi tick),(2,vi d),(11,.bool false),(24,vi op),(25,.bool (op==7))]<|Xc (op==7) (fun a7=>?_) (fun a7=>?_)
      ·have e:Zbc op=true:=by rw[eq_of_beq a7];rfl
       refine Xk ?_;rw[show(op==7)=(Zbc op)by rw[a7,e]];exact mA (())
      ·refine Xq<|Xg 2<|Ce [(12,vp b3),(10,vp b2),(9,vp b1),(0,vp wb),(1,vi tick),(2,vi d),(11,.bool false),(24,vi op),(25,.bool (op==11))]<|Xc (op==11) (fun a11=>?_) (fun a11=>?_)
       ·have e:Zbc op=true:=by rw[eq_of_beq a11];rfl
        refine Xk ?_;rw[show(op==11)=(Zbc op)by rw[a11,e]];exact mA (())
       ·refine Xq<|Xg 2<|Ce [(12,vp b3),(10,vp b2),(9,vp b1),(0,vp wb),(1,vi tick),(2,vi d),(11,.bool false),(24,vi op),(25,.bool (op==13))]<|Xc (op==13) (fun a13=>?_) (fun a13=>?_)
        ·have e:Zbc op=true:=by rw[eq_of_beq a13];rfl
         refine Xk ?_;rw[show(op==13)=(Zbc op)by rw[a13,e]];exact mA (())
        ·refine Xg 2 (Ce [(12,vp b3),(10,vp b2),(9,vp b1),(0,vp wb),(1,vi tick),(2,vi d),(11,.bool false),(24,vi op),(25,.bool (op==14))] ?_);have e:(op==14)=Zbc op:=by simp only[Zbc,a1,a2,a3,a7,a11,a13,Bool.false_or]
         rw[show(op==14)=(Zbc op)by exact e];exact mA (())
  cases hkp:(Zbc op)with
  |true=>
   rw[show Zdr (Zan c z tick d th op a b).2 d tick op (ZaK (Zan c z tick d th op a b).1).1=wUp (Zan c z tick d th op a b).2 d {y with r:=ZbT y.r tick op (ZaK (Zan c z tick d th op a b).1).1}by rw[Zdr,if_pos hkp,Zbj hy]]at he;refine cT<|Xy0 0 [12] 13<|At' [0,1,2,3,4,7,8,9,10,11] [(⟨wb,5,none⟩,.slice (sA rb ro) P.s.length P.rn),(⟨b1,0,none⟩,vi op),(⟨b3,0,none⟩,vi ((ZaK (Zan c z tick d th op a b).1).1))] (hasC (Zeg 3 (i:=5) hRA rfl rfl) (hasC (ba 2) (hasC (ba 0) Zaa)))<|Xu 5 (Xi 77 (.tmp 36) (.tmp 37) rb ro P.s.length P.rn d 1 97 (d:Int) 38 underlying77)<|At' [6] [(⟨rb,ro+d*1,none⟩,vp p.r)] (hasC ((Zcz (wb:=wb) (c:=c) (P:=P) (E:=bpE) 2 rfl (by simp) 3 rfl).cell hRA (i:=d) (j:=0) (x:=p.r) (by rw[List.getElem?_map,hp];rfl) rfl) Zaa) ?_;refine Yo 12 (Xa (some 45) _ (Zak 3 rfl (hadd _)))<|Xd<|Xq<|Xg 3<|Bl 2 1 [(⟨b3,0,none⟩,vi ((ZaK (Zan c z tick d th op a b).1).1)),(⟨b3,1,none⟩,vi ((ZaK (Zan c z tick d th op a b).1).2.1)),(⟨b3,2,none⟩,vi ((ZaK (Zan c z tick d th op a b).1).2.2))] (hasC (ba 0) (hasC (ba 0) (hasC (ba 0) Zaa)))<|Xh0 ?_ 1 2;refine Bs 1 (Xz [(0,vi ((ZaK (Zan c z tick d th op a b).1).1)),(1,vi ((ZaK (Zan c z tick d th op a b).1).2.1)),(2,vi ((ZaK (Zan c z tick d th op a b).1).2.2))])<|Be<|Xv<|dB 0 (.tuple #[.agg #[.int .i64 ((ZaK (Zan c z tick d th op a b).1).1),.int .i64 ((ZaK (Zan c z tick d th op a b).1).2.1),.int .i64 ((ZaK (Zan c z tick d th op a b).1).2.2)],.bool true]) (fun w hs=>?_);exact⟨(),by rw[he],by rw[he];exact hs.tail.tail.tail⟩
  |false=>
   rw[show Zdr (Zan c z tick d th op a b).2 d tick op (ZaK (Zan c z tick d th op a b).1).1=(Zan c z tick d th op a b).2 by rw[Zdr,if_neg (by rw[hkp];simp)]]at he;refine cF<|Xk<|Xq<|Xg 3<|Bl 2 1 [(⟨b3,0,none⟩,vi ((ZaK (Zan c z tick d th op a b).1).1)),(⟨b3,1,none⟩,vi ((ZaK (Zan c z tick d th op a b).1).2.1)),(⟨b3,2,none⟩,vi ((ZaK (Zan c z tick d th op a b).1).2.2))] (hasC (ba 0) (hasC (ba 0) (hasC (ba 0) Zaa)))<|Xh0 ?_ 1 2;refine Bs 1 (Xz [(0,vi ((ZaK (Zan c z tick d th op a b).1).1)),(1,vi ((ZaK (Zan c z tick d th op a b).1).2.1)),(2,vi ((ZaK (Zan c z tick d th op a b).1).2.2))])<|Be<|Xv<|dB 0 (.tuple #[.agg #[.int .i64 ((ZaK (Zan c z tick d th op a b).1).1),.int .i64 ((ZaK (Zan c z tick d th op a b).1).2.1),.int .i64 ((ZaK (Zan c z tick d th op a b).1).2.2)],.bool true]) (fun w hs=>?_);exact⟨(),by rw[he],by rw[he];exact hs.tail.tail.tail⟩
theorem ZiE (H:List SP)(wb:Nat)(c:ConfV)(P:RWP)(z:WS)(hk:KC H c):U0 31 #[vp wb] (rwS wb c P z::H) (.tuple #[]) (rwS wb c P (Zdt z)::H):=by
 have hc:=Zp2 (wb:=wb) (c:=c) (P:=P) (w:=z) (H:=H) (X:=fun _:Unit=> []) (t':=fun _=>Zdv z.t) (fun R=>Zl9 (R++H) P.t c z.t);simp only[List.nil_append,←Zr4]at hc;refine eG func31 33 ?_;refine PT.know (ZgW 0 rfl) ?_;rintro⟨⟨hn1,hn2,hn6⟩,hok⟩;refine Xq<|Xg 5<|Bl 1 4 [(⟨wb,10,none⟩,vp P.t)] (hasC (ZaE 0 (i:=10) rfl rfl) Zaa)<|Bs 0 (Xa (some 7) _ (hc))<|endR<|Xq<|Xg 1<|Be<|Xb 0 (Xp [(0,vp wb),(2,vi 0)] ?_);refine ZbV (fun(u:Nat)=> [(0,vp wb),(2,vi u)]) (fun(u:Nat)=>(rwS wb c P (epS z u)::H)) (fun k (u:Nat)=>k+u=P.s.length) P.s.length 0 Kr (by omega) ?_;rintro k u hku;refine Xq<|Xq<|Xg 7<|Cm [(0,vp wb),(2,vi u),(14,.bool (decide ((u:Int)< (P.s.length:Int))))] [(⟨wb,7,none⟩,.slice P.pa P.s.length P.pn)] (hasC (ZaE 0 (i:=7) rfl rfl) Zaa)<|Xc (decide ((u:Int)< (P.s.length:Int))) (fun h1=>?_) (fun h1=>?_)
 ·have hu:u<P.s.length:=by have:=of_decide_eq_true h1;omega
  obtain⟨p,x,hp,hx⟩:∃p x,P.s[u]? =some p∧z.s[u]? =some x:=⟨_,_,gEe hu,gEe (by omega)⟩
  obtain⟨y,hy⟩:∃y,c.domains.l[u]? =some y:=⟨_,gEe (by omega)⟩
  have hr:=hok u x y hx hy;have hxe:=Zja hx;have hes:wUp (epS z u) u {x with left:=sends y.sends}=epS z (u+1):=by rw[←ZjV hx,hr.2.2]
  refine PT.know (ZgW 0 rfl) ?_;intro hok2;refine PT.know (Zci (Zcz (wb:=wb) (c:=c) (P:=P) (w:=epS z u) (E:=kE .i64) 4 rfl (by rw[List.length_map,ZqO];exact hn1) 0 rfl) (d:=u) (by rw[List.getElem?_map,hxe];rfl)) ?_;rintro⟨pb,po,hPA⟩;have hil:u<c.domains.l.length:=by omega
  refine PT.know ((hk.domains).up.isSome ((by intro h9;rw[h9]at hil;simp at hil))) ?_;rintro⟨db,dd,hA⟩
  try rw[hA]
  refine Xk<|Xq<|Xb 1<|Xy0 0 [16] 17<|At' [0,1,2,3,4,5,6,7,8,9,10] [(⟨wb,7,none⟩,.slice (sA pb po) P.s.length P.pn),(⟨wb,3,none⟩,.slice (sA db dd) c.domains.l.length c.domains.c)] (hasC (Zeg 0 (i:=7) hPA rfl rfl) (hasC (Zeg 0 (i:=3) hA rfl rfl) Zaa))<|Xu 11 (Xi 24 (.tmp 26) (.tmp 27) db dd c.domains.l.length c.domains.c u 10 44 (u:Int) 28 underlying24)<|At' [12,13] [(⟨db,dd+u*10+8,none⟩,vi y.sends)] (hasC (up (hk.domains.cell hA (i:=u) (x:=y) hy (j:=8) rfl)) Zaa)<|Yo 14 (Xa (some 31) _ (ZeY _ y.sends))<|Xu 15 (Xi 42 (.tmp 20) (.tmp 21) pb po P.s.length P.pn u 1 3 (u:Int) 32 underlying42)<|Yo 16 (Step.lens (Zam (l:=rwL wb c P (epS z u)) 4 (by rw[←hPA]<;>rfl)) ((Zju (v:=sends y.sends) hxe hok2 hPA (ZeH _)).trans (congrArg (rwS wb c P) hes)) (fun R=>ZdU (E:=kE .i64) (J:=u) (j:=0) x.left (sends y.sends) (.int .i64 (sends y.sends)) ⟨pb,po+u*1,none⟩ (fun _=>Kr) (by first|rfl|simp) (by rw[List.getElem?_map,hxe];rfl) rfl (by decide))) ?_;refine Xd<|Xg 3<|Be<|Xp [(0,vp wb),(2,vi (IntKind.i64.wrap ((u:Int)+1)))] ?_;exact Za3 (k-1) (u+1) (by rw[show IntKind.i64.wrap ((u:Int)+1)=((u+1:Nat):Int)by rw[IntKind.wrap_i64];omega]) rfl (by omega) (by omega)
 ·have hu:P.s.length≤u:=by have:=of_decide_eq_false h1;omega
  exact Xx 0 (Zao (Zao (Zax (Y1 (.tuple #[]) fun w hs=>⟨(),rfl,by rw[Zm6 z (by omega)]at hs;exact hs⟩))))
theorem Zsn :Ety Tryz.prog bpE 75 (.pointer none):=Ety.of (b:=8) Kr (by decide) rfl
theorem Zsk :Ety Tryz.prog bpE 97 (.pointer none):=Ety.of (b:=8) Kr (by decide) rfl
theorem Zsi :Ety Tryz.prog bpE 155 (.pointer none):=Ety.of (b:=8) Kr (by decide) rfl
theorem Zsj :Ety Tryz.prog ZnR 42 (.slice none 0 0):=Ety.of (b:=24) Kr (by decide) rfl
theorem Zmj {n:Nat}{P:List RdP}{s:List SdS}{y:DomV}(hn:n≤6)(hl:P.length=s.length){kb kt rb xb sb:Nat}{H:List SP}{v:World}(h:Sat v (rkT kb kt (k0 (Zh2 y.threads) (Zh3 y.groups))::Zjw rb (rg0 y.ring)::ZkI xb (bx0 y.box)::row (kE .i64) 3 (.slice (some ⟨sb,0,none⟩) n n) (List.replicate n 0)::Zaz (ZbO n P s)::H)):Sat v (Zaz (ZbO n (P++[⟨kb,kt,rb,xb,sb⟩]) (s++[Zh1 y]))::H):=by
 have e:List.replicate n (0:Int)=(Zh1 y).read.take n:=by
  show _=[0,0,0,0,0,0].take n;have:n=0∨n=1∨n=2∨n=3∨n=4∨n=5∨n=6:=by omega
  rcases this with rfl|rfl|rfl|rfl|rfl|rfl|rfl<;>rfl
 rw[e]at h;have h1:Sat v (ZnC n ⟨kb,kt,rb,xb,sb⟩ (Zh1 y)::Zaz (ZbO n P s)::H):=Sat.closeMany (l:=Zkq n ⟨kb,kt,rb,xb,sb⟩ (Zh1 y)) h;rw[show ZbO n (P++[⟨kb,kt,rb,xb,sb⟩]) (s++[Zh1 y])=ZbO n P s++[ZnC n ⟨kb,kt,rb,xb,sb⟩ (Zh1 y)] by unfold ZbO;rw[List.zipWith_append hl];rfl];refine Sat.closeMany ?_;refine Sat.perm ?_ (Sat.openMany (SatF.swap h1));rw[List.append_assoc];exact List.Perm.refl _
theorem ZsK {n:Nat}{P:List RdP}{s:List SdS}{y:DomV}(hn:n≤6)(hl:P.length=s.length){kb kt rb xb sb:Nat}{H:List SP}{v:World}{B K R X Q S:SP}(h:Sat v (B::S::row (kE .i64) 3 (.slice (some ⟨sb,0,none⟩) n n) (List.replicate n 0)::Q::X::ZkI xb (bx0 y.box)::R::Zjw rb (rg0 y.ring)::K::rkT kb kt (k0 (Zh2 y.threads) (Zh3 y.groups))::Zaz (ZbO n P s)::H)):Sat v (B::K::R::X::Q::S::Zaz (ZbO n (P++[⟨kb,kt,rb,xb,sb⟩]) (s++[Zh1 y]))::H):=by
 have h1:=Zmj hn hl (Sat.pick 10 rfl (Sat.pick 9 rfl (Sat.pick 8 rfl (Sat.pick 7 rfl (Sat.pick 10 rfl (Sat.pick 5 rfl (Sat.pick 8 rfl (Sat.pick 6 rfl (Sat.pick 4 rfl (Sat.pick 3 rfl (Sat.pick 1 rfl (h))))))))))));exact Sat.pick 6 rfl (Sat.pick 6 rfl (Sat.pick 6 rfl (Sat.pick 6 rfl (Sat.pick 6 rfl (Sat.pick 6 rfl (h1))))))
theorem ZrE {H:List SP}{v:World}{b k r x p s m t l u:SP}(h:Sat v (u::b::k::r::x::p::s::m::t::l::H)):Sat v ([b,k,r,x,p,s,l,t,m,u]++H):=Sat.pick 9 rfl (Sat.pick 9 rfl (Sat.pick 9 rfl (Sat.pick 9 rfl (Sat.pick 9 rfl (Sat.pick 9 rfl (Sat.pick 9 rfl (Sat.pick 8 rfl (Sat.pick 7 rfl (h)))))))))
theorem close_rworld {wb:Nat}{c:ConfV}{P:RWP}{w:WS}{H:List SP}{v:World}(hok:RwOk c P w)(h:Sat v (blk wb 82 (rwC c P)::row bpE 75 (.slice P.ka P.s.length P.kn) (P.s.map (·.k))::row bpE 97 (.slice P.ra P.s.length P.rn) (P.s.map (·.r))::row bpE 155 (.slice P.ba P.s.length P.bn) (P.s.map (·.x))::row (kE .i64) 3 (.slice P.pa P.s.length P.pn) (w.s.map (·.left))::row ZnR 42 (.slice P.sa P.s.length P.sn) (P.s.map fun p=>(p.s,c.domains.l.length))::Zaz (ZbO c.domains.l.length P.s w.s)::Ziv P.t c w.t::Zjx P.l w.l::H)):Sat v (rwS wb c P w::H):=
 Sat.closeMany (l:=rwL wb c P w) (ZrE (Sat.closePure hok h))
theorem Zrs {c:ConfV}{P:RWP}(h:P.s.length=c.domains.l.length)(h6:c.domains.l.length≤6):RwOk c P (w0 c):=by
 refine⟨⟨by simp[w0,h],by simp[w0],by simp[w0];omega⟩,fun i x y hx hy=>?_⟩;have:x=Zh1 y:=by
  rw[show(w0 c).s=c.domains.l.map Zh1 from rfl,List.getElem?_map,hy]at hx;exact(Option.some.inj hx).symm
 subst this;exact⟨rfl,ZeH _,rfl⟩
theorem Zkm (H:List SP)(c:ConfV)(hk:KC H c)(hcl:c.domains.l.length≤6):U1 29 #[cV c] H (ι:=Nat×RWP) (fun q=>vp q.1) fun q=>rwS q.1 c q.2 (w0 c)::H:=by
 refine eG func29 91 ?_;refine Xq<|Xg 2<|Bx 1 (Xn 26 [vi c.frame,vi c.epoch,.slice c.plans.a c.plans.l.length c.plans.c,.slice c.domains.a c.domains.l.length c.domains.c] (some 1) (fun b=>vp b)) fun b1=>Be<|Xq<|Xy0 0 [] 10<|At' [0,1,2,3,5] [(⟨b1,0,none⟩,vi c.frame),(⟨b1,1,none⟩,vi c.epoch),(⟨b1,2,none⟩,.slice c.plans.a c.plans.l.length c.plans.c),(⟨b1,3,none⟩,.slice c.domains.a c.domains.l.length c.domains.c),(⟨b1,3,none⟩,.slice c.domains.a c.domains.l.length c.domains.c),(⟨b1,0,none⟩,vi c.frame),(⟨b1,1,none⟩,vi c.epoch),(⟨b1,2,none⟩,.slice c.plans.a c.plans.l.length c.plans.c),(⟨b1,3,none⟩,.slice c.domains.a c.domains.l.length c.domains.c)] (hasC (ba 0) (hasC (ba 0) (hasC (ba 0) (hasC (ba 0) (hasC (ba 0) (hasC (ba 0) (hasC (ba 0) (hasC (ba 0) (hasC (ba 0) Zaa)))))))))<|Xo 4 (Xa (some 10) _ (Zix _ (c.domains.l.length:Int))) fun(lb:Nat)=>Xo 6 (Xa (some 12) _ (Ziu _ c (by omega))) fun(tb:Nat)=>At' [7] [] Zaa<|Xo 8 (Xn 82 [vi c.frame,vi c.epoch,.slice c.plans.a c.plans.l.length c.plans.c,.slice c.domains.a c.domains.l.length c.domains.c,.slice none 0 0,.slice none 0 0,.slice none 0 0,.slice none 0 0,.slice none 0 0,vp lb,vp tb] (some 14) (fun b=>vp b)) fun b2=>At' [9] [] Zaa<|Xd<|Xq<|Xq<|Xg 1<|Be<|Xb 0 ?_
 refine PT.rowNil ZnR 42 ?_;refine PT.rowNil (kE .i64) 3 ?_;refine PT.rowNil bpE 155 ?_;refine PT.rowNil bpE 97 ?_;refine PT.rowNil bpE 75 ?_;refine PT.sat (fun w hs=>Sat.closeMany (l:=ZbO c.domains.l.length [] (Zef c 0)) hs) ?_;refine PT.pick 9 rfl<|PT.pick 9 rfl<|PT.pick 9 rfl<|PT.pick 3 rfl<|PT.pick 8 rfl<|PT.pick 8 rfl<|PT.pick 8 rfl<|PT.pick 8 rfl<|PT.pick 8 rfl<|PT.pick 9 rfl<|Xp [(1,vp b1),(2,.pointer none),(3,vp b2),(4,vi 0)] ?_;refine ZbV (fun(q:RWP)=> [(1,vp b1),(2,.pointer none),(3,vp b2),(4,vi (q.s.length:Int))]) (fun(q:RWP)=>(blk b2 82 [vi c.frame,vi c.epoch,.slice c.plans.a c.plans.l.length c.plans.c,.slice c.domains.a c.domains.l.length c.domains.c,.slice q.ka ((q.s.map (·.k)).length) q.kn,.slice q.ra ((q.s.map (·.r)).length) q.rn,.slice q.ba ((q.s.map (·.x)).length) q.bn,.slice q.pa (((Zef c q.s.length).map (·.left)).length) q.pn,.slice q.sa ((q.s.map fun p=>(p.s,c.domains.l.length)).length) q.sn,vp lb,vp tb]::row bpE 75 (.slice q.ka (q.s.map (·.k)).length q.kn) (q.s.map (·.k))::row bpE 97 (.slice q.ra (q.s.map (·.r)).length q.rn) (q.s.map (·.r))::row bpE 155 (.slice q.ba (q.s.map (·.x)).length q.bn) (q.s.map (·.x))::row (kE .i64) 3 (.slice q.pa ((Zef c q.s.length).map (·.left)).length q.pn) ((Zef c q.s.length).map (·.left))::row ZnR 42 (.slice q.sa (q.s.map fun p=>(p.s,c.domains.l.length)).length q.sn) (q.s.map fun p=>(p.s,c.domains.l.length))::Zaz (ZbO c.domains.l.length q.s (Zef c q.s.length))::Ziv tb c (lt0 c.domains.l.length)::Zjx lb (List.replicate (mnI (mxI (c.domains.l.length:Int) 1) 6).toNat ⟨0,0,0,0⟩)::blk b1 26 [vi c.frame,vi c.epoch,.slice c.plans.a c.plans.l.length c.plans.c,.slice c.domains.a c.domains.l.length c.domains.c]::H)) (fun k (q:RWP)=>k+q.s.length=c.domains.l.length) c.domains.l.length ⟨lb,tb,none,0,none,0,none,0,none,0,none,0,[]⟩ Kr (by simp) ?_;rintro k ⟨ql,qt,ka,kn,ra,rn,xa,xn,pa,pn,sa,sn,P⟩ hku;dsimp only at hku;refine Xq<|Xq<|Xg 5<|Cm [(1,vp b1),(2,.pointer none),(3,vp b2),(4,vi (P.length:Int)),(19,.bool (decide ((P.length:Int)< (c.domains.l.length:Int))))] [(⟨b1,3,none⟩,.slice c.domains.a c.domains.l.length c.domains.c)] (hasC (ba 9) Zaa)<|Xc (decide ((P.length:Int)< (c.domains.l.length:Int))) (fun h1=>?_) (fun h1=>?_)
 ·have hu:P.length<c.domains.l.length:=by have:=of_decide_eq_true h1;omega
  obtain⟨y,hy⟩:∃y,c.domains.l[P.length]? =some y:=⟨_,gEe hu⟩
  have hs1:=ZgU hy;have hs2:(Zef c P.length).length=P.length:=by rw[Zef,List.length_map,List.length_take];omega
  refine PT.know ((hk.domains).up.up.up.up.up.up.up.up.up.up.isSome ((by intro h9;rw[h9]at hu;simp at hu))) ?_;rintro⟨db,dd,hA⟩
  try rw[hA]
  refine Xk<|Xq<|Xb 1<|Xq<|Xg 7<|Bl 4 3 [(⟨b1,3,none⟩,.slice (sA db dd) c.domains.l.length c.domains.c)] (hasC (ba 9) Zaa)<|Bs 3 (Zav (Xi 24 (.tmp 23) (.tmp 24) db dd c.domains.l.length c.domains.c P.length 10 44 (P.length:Int) 25 underlying24))<|Cl 2 1 [(1,vp b1),(2,.pointer none),(3,vp b2),(4,vi (P.length:Int)),(26,.agg #[vi y.lab.level,.int .u64 y.lab.cats,.slice y.routes.a y.routes.l.length y.routes.c,.slice y.release.a y.release.l.length y.release.c,vi y.to,vi y.threads,vi y.groups,vi y.ring,vi y.sends,vi y.box])] [(⟨db,dd+P.length*10,none⟩,vi y.lab.level),(⟨db,dd+P.length*10+1,none⟩,.int .u64 y.lab.cats),(⟨db,dd+P.length*10+2,none⟩,.slice y.routes.a y.routes.l.length y.routes.c),(⟨db,dd+P.length*10+3,none⟩,.slice y.release.a y.release.l.length y.release.c),(⟨db,dd+P.length*10+4,none⟩,vi y.to),(⟨db,dd+P.length*10+5,none⟩,vi y.threads),(⟨db,dd+P.length*10+6,none⟩,vi y.groups),(⟨db,dd+P.length*10+7,none⟩,vi y.ring),(⟨db,dd+P.length*10+8,none⟩,vi y.sends),(⟨db,dd+P.length*10+9,none⟩,vi y.box)] (hasC (up (up (up (up (up (up (up (up (up (up (hk.domains.cell hA (i:=P.length) (x:=y) hy (j:=0) rfl))))))))))) (hasC (up (up (up (up (up (up (up (up (up (up (hk.domains.cell hA (i:=P.length) (x:=y) hy (j:=1) rfl))))))))))) (hasC (up (up (up (up (up (up (up (up (up (up (hk.domains.cell hA (i:=P.length) (x:=y) hy (j:=2) rfl))))))))))) (hasC (up (up (up (up (up (up (up (up (up (up (hk.domains.cell hA (i:=P.length) (x:=y) hy (j:=3) rfl))))))))))) (hasC (up (up (up (up (up (up (up (up (up (up (hk.domains.cell hA (i:=P.length) (x:=y) hy (j:=4) rfl))))))))))) (hasC (up (up (up (up (up (up (up (up (up (up (hk.domains.cell hA (i:=P.length) (x:=y) hy (j:=5) rfl))))))))))) (hasC (up (up (up (up (up (up (up (up (up (up (hk.domains.cell hA (i:=P.length) (x:=y) hy (j:=6) rfl))))))))))) (hasC (up (up (up (up (up (up (up (up (up (up (hk.domains.cell hA (i:=P.length) (x:=y) hy (j:=7) rfl))))))))))) (hasC (up (up (up (up (up (up (up (up (up (up (hk.domains.cell hA (i:=P.length) (x:=y) hy (j:=8) rfl))))))))))) (hasC (up (up (up (up (up (up (up (up (up (up (hk.domains.cell hA (i:=P.length) (x:=y) hy (j:=9) rfl))))))))))) Zaa))))))))))<|Bx 1 (Xn 44 [vi 0,.int .u64 0,.slice none 0 0,.slice none 0 0,vi 0,vi 0,vi 0,vi 0,vi 0,vi 0] (some 5) (fun b=>vp b)) fun b3=>Bs 0 (Xz [(0,vi y.lab.level),(1,.int .u64 y.lab.cats),(2,.slice y.routes.a y.routes.l.length y.routes.c),(3,.slice y.release.a y.release.l.length y.release.c),(4,vi y.to),(5,vi y.threads),(6,vi y.groups),(7,vi y.ring),(8,vi y.sends),(9,vi y.box)])<|endR ?_
  try rw[←hA]
  refine PT.pick 2 rfl<|Xq<|Xy0 1 [14] 15<|At' [0,1,2,3,4,5,6,7,8] [(⟨b2,4,none⟩,.slice ka ((P.map (·.k)).length) kn),(⟨b3,5,none⟩,vi y.threads),(⟨b3,6,none⟩,vi y.groups)] (hasC (ba 1) (hasC (ba 0) (hasC (ba 0) Zaa)))<|Xo 9 (Xa (some 36) _ (Zkx _ y.threads y.groups)) fun(kb:Nat×Nat)=>Xo 10 (Xn 75 [vp kb.1] (some 37) (fun b=> .slice (s0 b) 1 1)) fun b4=>DT.pick 2 rfl<|Xo 11 (Xf (E:=bpE) 76 (.tmp 31) (.tmp 37) ka kn (P.map (·.k)) [kb.1] (.slice (s0 b4) 1 1) 38 underlying76 (Zsn) (Zbr (x:=kb.1) 1 rfl) (by simp;omega)) fun r5=>At' [12,13] [] Zaa<|DT.pick 4 rfl<|Yo 14 (Xz [(4,.slice r5.1 (((P.map (·.k))++[kb.1]).length) r5.2)])<|Xd<|PT.pick 2 rfl<|PT.drop<|PT.pick 4 rfl<|Xq<|Xy0 1 [12] 13<|At' [0,1,2,3,4,5,6] [(⟨b2,5,none⟩,.slice ra ((P.map (·.r)).length) rn),(⟨b3,7,none⟩,vi y.ring)] (hasC (ba 0) (hasC (ba 3) Zaa))<|Xo 7 (Xa (some 48) _ (Zin _ y.ring)) fun(rb:Nat)=>Xo 8 (Xn 97 [vp rb] (some 49) (fun b=> .slice (s0 b) 1 1)) fun b6=>DT.pick 2 rfl<|Xo 9 (Xf (E:=bpE) 77 (.tmp 45) (.tmp 49) ra rn (P.map (·.r)) [rb] (.slice (s0 b6) 1 1) 50 underlying77 (Zsk) (Zbr (x:=rb) 1 rfl) (by simp;omega)) fun r7=>At' [10,11] [] Zaa<|DT.pick 3 rfl<|Yo 12 (Xz [(5,.slice r7.1 (((P.map (·.r))++[rb]).length) r7.2)])<|Xd<|PT.pick 2 rfl<|PT.drop<|PT.pick 6 rfl<|Xq<|Xy0 1 [12] 13<|At' [0,1,2,3,4,5,6] [(⟨b2,6,none⟩,.slice xa ((P.map (·.x)).length) xn),(⟨b3,9,none⟩,vi y.box)] (hasC (ba 0) (hasC (ba 5) Zaa))<|Xo 7 (Xa (some 60) _ (ZiI _ y.box)) fun(xb:Nat)=>Xo 8 (Xn 155 [vp xb] (some 61) (fun b=> .slice (s0 b) 1 1)) fun b8=>DT.pick 2 rfl<|Xo 9 (Xf (E:=bpE) 78 (.tmp 57) (.tmp 61) xa xn (P.map (·.x)) [xb] (.slice (s0 b8) 1 1) 62 underlying78 (Zsi) (Zbr (x:=xb) 1 rfl) (by simp;omega)) fun r9=>At' [10,11] [] Zaa<|DT.pick 3 rfl<|Yo 12 (Xz [(6,.slice r9.1 (((P.map (·.x))++[xb]).length) r9.2)])<|Xd<|PT.pick 2 rfl<|PT.drop<|PT.pick 8 rfl<|Xq<|Xy0 1 [12] 13<|At' [0,1,2,3,4,5,6] [(⟨b2,7,none⟩,.slice pa (((Zef c P.length).map (·.left)).length) pn),(⟨b3,8,none⟩,vi y.sends)] (hasC (ba 0) (hasC (ba 7) Zaa))<|Yo 7 (Xa (some 72) _ (ZeY _ y.sends))<|Xo 8 (Xn 3 [vi (sends y.sends)] (some 73) (fun b=> .slice (s0 b) 1 1)) fun b10=>DT.pick 1 rfl<|Xo 9 (Xf (E:=(kE .i64)) 42 (.tmp 69) (.tmp 73) pa pn ((Zef c P.length).map (·.left)) [sends y.sends] (.slice (s0 b10) 1 1) 74 underlying42 (Zba) (Zbr (x:=sends y.sends) 1 rfl) (by rw[List.length_map,hs2];simp;omega)) fun r11=>At' [10,11] [] Zaa<|DT.pick 2 rfl<|Yo 12 (Xz [(7,.slice r11.1 ((((Zef c P.length).map (·.left))++[sends y.sends]).length) r11.2)])<|Xd<|PT.pick 2 rfl<|PT.drop<|PT.pick 9 rfl<|Xy0 1 [13] 14<|At' [0,1,2,3,4,5,6,7] [(⟨b2,8,none⟩,.slice sa ((P.map fun p=>(p.s,c.domains.l.length)).length) sn),(⟨b1,3,none⟩,.slice c.domains.a c.domains.l.length c.domains.c)] (hasC (ba 0) (hasC (ba 12) Zaa))<|Xo 8 (mkS (E:=(kE .i64)) (T:=3) 42 (.tmp 84) (.tmp 84) c.domains.l.length 0 (.int .i64 0) 8 (some 85) (fun _=>Kr) Kr Kr (fun _=>Kr) (fun _=>Kr) underlying42 Kr Kr rfl (by decide) (by omega)) fun b12=>Xo 9 (Xn 42 [.slice (s0 b12) c.domains.l.length c.domains.l.length] (some 86) (fun b=> .slice (s0 b) 1 1)) fun b13=>DT.pick 2 rfl<|Xo 10 (Xf (E:=ZnR) 23 (.tmp 81) (.tmp 86) sa sn (P.map fun p=>(p.s,c.domains.l.length)) [(b12,c.domains.l.length)] (.slice (s0 b13) 1 1) 87 underlying23 (Zsj) (Zbr (x:=(b12,c.domains.l.length)) 1 rfl) (by simp;omega)) fun r14=>Xt [11,12] [(87,.slice r14.1 (((P.map fun p=>(p.s,c.domains.l.length))++[(b12,c.domains.l.length)]).length) r14.2),(1,vp b1),(2,.pointer none),(3,vp b2),(4,vi (P.length:Int)),(89,vq b2 8)] [] Zaa<|DT.pick 3 rfl ?_
  refine Zqk 13 0 [true,true,true,true,true,true,true,true,true,true,true,true,true,true] rfl rfl Kr (ZdT [(8,.slice r14.1 (((P.map fun p=>(p.s,c.domains.l.length))++[(b12,c.domains.l.length)]).length) r14.2)] [.int .i64 c.frame,.int .i64 c.epoch,.slice c.plans.a c.plans.l.length c.plans.c,.slice c.domains.a c.domains.l.length c.domains.c,.slice r5.1 (((P.map (·.k))++[kb.1]).length) r5.2,.slice r7.1 (((P.map (·.r))++[rb]).length) r7.2,.slice r9.1 (((P.map (·.x))++[xb]).length) r9.2,.slice r11.1 ((((Zef c P.length).map (·.left))++[sends y.sends]).length) r11.2,.slice r14.1 (((P.map fun p=>(p.s,c.domains.l.length))++[(b12,c.domains.l.length)]).length) r14.2,vp lb,vp tb] (fun _=>Kr) Kr Kr) (fun _ _ h hn=>by first|exact h|exact h.tail|exact h.tail.tail|exact h.tail.tail.tail|exact h.tail.tail.tail.tail|exact h.tail.tail.tail.tail.tail|exact h.tail.tail.tail.tail.tail.tail|exact h.tail.tail.tail.tail.tail.tail.tail|exact h.tail.tail.tail.tail.tail.tail.tail.tail|exact h.tail.tail.tail.tail.tail.tail.tail.tail.tail|exact h.tail.tail.tail.tail.tail.tail.tail.tail.tail.tail|exact h.tail.tail.tail.tail.tail.tail.tail.tail.tail.tail.tail|exact absurd hn (by decide)) (fun _=>?_);refine Xd<|PT.pick 2 rfl<|PT.drop<|PT.pick 10 rfl<|PT.drop ?_;have hs3:((Zef c P.length).map (·.left))++[sends y.sends]=(Zef c (P++[(⟨kb.1,kb.2,rb,xb,b12⟩:RdP)]).length).map (·.left):=by rw[List.length_append,List.length_singleton,hs1,List.map_append];rfl
  rw[show((P.map (·.k))++[kb.1])=((P++[(⟨kb.1,kb.2,rb,xb,b12⟩:RdP)]).map (·.k))by simp];rw[show((P.map (·.r))++[rb])=((P++[(⟨kb.1,kb.2,rb,xb,b12⟩:RdP)]).map (·.r))by simp];rw[show((P.map (·.x))++[xb])=((P++[(⟨kb.1,kb.2,rb,xb,b12⟩:RdP)]).map (·.x))by simp];rw[show(((Zef c P.length).map (·.left))++[sends y.sends])=((Zef c (P++[(⟨kb.1,kb.2,rb,xb,b12⟩:RdP)]).length).map (·.left))by exact hs3];rw[show((P.map fun p=>(p.s,c.domains.l.length))++[(b12,c.domains.l.length)])=((P++[(⟨kb.1,kb.2,rb,xb,b12⟩:RdP)]).map fun p=>(p.s,c.domains.l.length))by simp];refine PT.sat (fun w hs=>ZsK hcl hs2.symm hs) ?_;rw[←hs1];refine Xg 3<|Ce [(1,vp b1),(2,.pointer none),(3,vp b2),(4,vi (IntKind.i64.wrap ((P.length:Int)+1)))]<|Xp [(1,vp b1),(2,.pointer none),(3,vp b2),(4,vi (IntKind.i64.wrap ((P.length:Int)+1)))] ?_;exact Za3 (k-1) ⟨lb,tb,r5.1,r5.2,r7.1,r7.2,r9.1,r9.2,r11.1,r11.2,r14.1,r14.2,(P++[(⟨kb.1,kb.2,rb,xb,b12⟩:RdP)])⟩ (by simp;rw[IntKind.wrap_i64];omega) (by simp) (by omega) (by simp;omega)
 ·have hu:P.length=c.domains.l.length:=by have:=of_decide_eq_false h1;omega
  refine Xx 0<|Zao<|Zao<|Zax<|Xq<|Xg 2<|Be<|Xv (Y0 (vp b2) (fun w hs=>?_));exact⟨(b2,⟨lb,tb,ka,kn,ra,rn,xa,xn,pa,pn,sa,sn,P⟩),rfl,by
   have h9:Zef c P.length=(w0 c).s:=by rw[Zef,hu,List.take_length];rfl
   have h7:(w0 c).s.length=P.length:=by rw[←h9,Zef,List.length_map,List.length_take];omega
   rw[h9]at hs;simp only[List.length_map,h7]at hs;exact close_rworld (P:=⟨lb,tb,ka,kn,ra,rn,xa,xn,pa,pn,sa,sn,P⟩) (w:=w0 c) (Zrs hu hcl) (Sat.erase 9 rfl hs)⟩
end Go.Proofs.YtfhkgohokbkgiaaGreatDoor
namespace Go.Proofs.YtfhkgohokbkgiaaGreatDoor
open Go.RowKit
section
variable {P :Program}{ops:Array Oper}{Q:Exit→Act→World→Prop}{md:Region.Mode}{S:Nat→World→Prop}{N:Nat→List Nat}
def Zct (P :Program) (md:Region.Mode) (ops:Array Oper) (Q:Exit→Act→World→Prop) (S:Nat→World→Prop) (N:Nat→List Nat):Nat→Array Bool→Act→World→Prop
  |0,listed,a,w=>Region.ready md ops listed=[]∧Q .normal a w
  | fuel+1,listed,a,w=>
    (Region.ready md ops listed=[]→Q .normal a w)∧
    ∀i∈Region.ready md ops listed,wpOp P ops Q i (fun a' w'=>(∀k,(N k).contains i=false→S k w→S k w')∧Zct P md ops Q S N fuel (listed.setIfInBounds i true) a' w') a w
theorem ZfB :∀(fuel:Nat) (listed:Array Bool) (a:Act) (w:World),Zct P md ops Q S N fuel listed a w→wpAny P md ops Q fuel listed a w
 |0,_,_,_,h=>h
 |fuel+1,_,_,_,h=>⟨h.1,fun i hi=>wpOp_mono (fun a' w' h'=>ZfB fuel _ a' w' h'.2) (h.2 i hi)⟩
theorem ZgG (k :Nat) {i:Nat} {oi:Oper} {v:Value} (hi:ops[i]? =some oi) (B:List Nat) (hsel:∀(j:Nat) (o:Oper) cs b,ops[j]? =some o→o.op≠ .select cs b)
    (hQ:∀c a w,Q (.panic c) (a.put oi.dst v) w→Q (.panic c) a w):
    ∀ (fuel:Nat) (listed:Array Bool) (a:Act) (w:World),WaitInv md ops (N k) i B listed→
      (∀j oj,ops[j]? =some oj→j≠i→listed.getD j true=false→(∀e∈oj.after,Region.binds md e=true→e.on≠i)→oi.apart ops oj=true)→
      i∈Region.ready md ops listed→YieldsIf P ops (S k) oi v a→S k w→
      Zct P md ops Q S N fuel (listed.setIfInBounds i true) (a.put oi.dst v) w→Zct P md ops Q S N (fuel+1) listed a w:=by
  intro fuel;induction fuel with
  | zero=>
    intro listed a w _ _ hr hy hS H;refine⟨fun h=>(by rw[h]at hr;cases hr),fun j hj=>?_⟩;by_cases hji:j=i
    · subst hji;exact hy.wpOp hi hS ⟨fun _ _ h=>h,H⟩
    · have:=ready_mono hj hji
      rw[H.1]at this;cases this
  | succ fuel ih=>
    intro listed a w hinv hfree hr hy hS H;refine⟨fun h=>(by rw[h]at hr;cases hr),fun j hj=>?_⟩;by_cases hji:j=i
    · subst hji;exact hy.wpOp hi hS ⟨fun _ _ h=>h,H⟩
    · have hjB:=hinv.out hj hji
      have hjn:(N k).contains j=false:=by
        cases hc:(N k).contains j with
        |false=>rfl
        | true=>
          rcases hinv.has j (by simpa using hc)with h|h
          · rw[(mem_ready.1 hj).1]at h;cases h
          · exact absurd h hjB
      have h1:=H.2 j (ready_mono hj hji);obtain⟨hjun,oj,hoj,hall⟩:=mem_ready.1 hj;have hnot:∀e∈oj.after,Region.binds md e=true→e.on≠i:=fun e he hb heq=>by
        have h1:=hall e he hb;have h0:=(mem_ready.1 hr).1;rw[heq]at h1;rcases Nat.lt_or_ge i listed.size with h'|h'
        · simp[h']at h0 h1;rw[h0]at h1;cases h1
        · simp[Array.getElem?_eq_none h']at h1
      have h2:=wpOp_putIf hoj (hfree j oj hoj hji hjun hnot) (fun cs b=>hsel i oi cs b hi) (fun cs b=>hsel j oj cs b hoj) hQ hy h1;have hfree':∀m ok,ops[m]? =some ok→m≠i→(listed.setIfInBounds j true).getD m true=false→
          (∀e∈ok.after,Region.binds md e=true→e.on≠i)→oi.apart ops ok=true:=fun m ok hk hki hun hno=>by
        refine hfree m ok hk hki ?_ hno;by_cases hjk:j=m
        · subst hjk;exact hjun
        · rw[getD_set_ne true hjk]at hun;exact hun
      refine wpOp_mono (fun a' w' h3=>⟨h3.2.1,ih (listed.setIfInBounds j true) a' w' (hinv.set hjB) hfree' (ready_mono hr (Ne.symm hji)) h3.1 (h3.2.1 k hjn hS) ?_⟩) h2;rw[Array.setIfInBounds_comm _ _ hji];exact h3.2.2
theorem wpAnyF_take (k:Nat)(i:Nat){oi:Oper}{v:Value}{fuel:Nat}{listed:Array Bool}{a:Act}{w:World}(hi:ops[i]? =some oi)(hB:ZdS md ops (N k) listed i=true)
  (hQ:∀c a w,Q (.panic c) (a.put oi.dst v) w→Q (.panic c) a w) (hS:S k w) (hy:YieldsIf P ops (S k) oi v a)
  (h:Zct P md ops Q S N fuel (listed.setIfInBounds i true) (a.put oi.dst v) w):Zct P md ops Q S N (fuel+1) listed a w:=by
 simp only[ZdS,Bool.and_eq_true]at hB;obtain⟨⟨⟨h2,h3⟩,h4⟩,h5⟩:=hB;exact ZgG k hi _ (Region.noSelect_spec h2) hQ fuel listed a w (waitOk_inv h5) (Region.free_spec hi h3) (by simpa using h4) hy hS h
def AllF (P:Program)(md:Region.Mode)(ops:Array Oper)(Q:Exit→Act→World→Prop)(S:Nat→World→Prop)(N:Nat→List Nat)(fuel:Nat)(listed:Array Bool)(a:Act)(w:World)(rs:List Nat):Prop:=
 ∀i∈rs,wpOp P ops Q i (fun a' w'=>(∀k,(N k).contains i=false→S k w→S k w')∧Zct P md ops Q S N fuel (listed.setIfInBounds i true) a' w') a w
theorem AllF.nil {fuel:Nat}{listed:Array Bool}{a:Act}{w:World}:AllF P md ops Q S N fuel listed a w []:=fun _ h=>by cases h
theorem AllF.cons {fuel:Nat}{listed:Array Bool}{a:Act}{w:World}{i:Nat}{o:Oper}{rs:List Nat}(ho:ops[i]? =some o)
  (h:∀K':Act→World→Prop,Shut (∀a w,(∀k,(N k).contains i=false→S k w)→Zct P md ops Q S N fuel (listed.setIfInBounds i true) a w→K' a w)→if Region.wanted o (yielded ops a.tmps)=true then Oper.wp P o a w K' Q else K' (a.put o.dst undef) w)
  (hs:AllF P md ops Q S N fuel listed a w rs):AllF P md ops Q S N fuel listed a w (i::rs):=fun j hj=>by
 rcases List.mem_cons.1 hj with rfl|hj
 ·exact wpOp_step ho (fun K' hK=>h K' (fun a w hS hW=>hK a w ⟨fun k hn _=>hS k hn,hW⟩))
 ·exact hs j hj
theorem wpAnyF_all {fuel:Nat}{listed:Array Bool}{a:Act}{w:World}(rs:List Nat)(hr:(Region.ready md ops listed==rs&&rs !=[])=true)
  (h:AllF P md ops Q S N fuel listed a w rs):Zct P md ops Q S N (fuel+1) listed a w:=by
 simp only[Bool.and_eq_true,beq_iff_eq,bne_iff_ne]at hr;exact⟨fun h0=>absurd (hr.1▸h0) hr.2,hr.1▸h⟩
theorem Zh5 {fuel:Nat}{listed:Array Bool}{a:Act}{w:World}(hr:(Region.ready md ops listed==[])=true)(h:Q .normal a w):Zct P md ops Q S N fuel listed a w:=by
 simp only[beq_iff_eq]at hr;cases fuel with
 |zero=>exact⟨hr,h⟩
 |succ f=>exact⟨fun _=>h,by rw[hr];simp⟩
theorem wp_region_F (N:Nat→List Nat)(S:Nat→World→Prop){id:Nat}{a:Act}{w:World}(hm:P.follows .mixedOrders=true)
  (h:Zct P .any ops Q S N ops.size (Array.replicate ops.size false) a w.drew):(Code.region id ops true).wp P Q a w:=
 wp_region_any hm (ZfB _ _ _ _ h)
end
namespace G
section
variable {P :Program}{n:Nat}{L:List (Nat×Value)}{H:List SP}{Q:Exit→Act→World→Prop}{c:Code}
def FT (P:Program)(n:Nat)(L:List (Nat×Value))(H:List SP)(c:Code)(S:Nat→World→Prop)(N:Nat→List Nat)(fuel:Nat)(listed:List Bool)(Q:Exit→Act→World→Prop):Prop:=
 PT n L H fun a w=>Zct P .any (Zas c).toArray Q S N fuel listed.toArray a w
theorem Zs1 (S:Nat→World→Prop)(N:Nat→List Nat)(m:Nat)(hk:ZaG c= .region true)(hm:P.follows .mixedOrders=true)(hl:(Zas c).length=m)(h:FT P n L H c S N m (List.replicate m false) Q):CT P n L H c Q:=by
 subst hl;cases c<;>simp[ZaG]at hk;rename_i id ops draw;subst hk;intro rest w ho hs;have hsd:Sat w.drew H:=hs.stay (Upd.drew _ _);have:=h rest w.drew ho hsd;simp only[Zas,Array.length_toList]at this;refine wp_region_F N S hm ?_;simpa using this
theorem ZeR {S : Nat→World→Prop} {N:Nat→List Nat} (k:Nat) {rest:Nat→Value} {w:World} (hQ:∀ch d (a:Act) v w,Q (.panic ch) (a.put d v) w→Q (.panic ch) a w) (hS:S k w):∀(is:List Nat) {listed listed':List Bool} {fuel:Nat} {L L':List (Nat×Value)} {qs r:List (Addr×Value)} {cs:List (Addr×Addr)},
    Zch P n (Zas c) (N k) is listed L rest qs=some (L',cs,r,listed')→OkL n L rest→(∀p∈cs,p.1=p.2)→(∀w,S k w→∀q∈qs,w.cell? q.1=some q.2)→
    (OkL n L' rest→Zct P .any (Zas c).toArray Q S N fuel listed'.toArray (ZbM n L' rest) w)→Zct P .any (Zas c).toArray Q S N (fuel+is.length) listed.toArray (ZbM n L rest) w
  | [],listed,listed',fuel,L,L',qs,r,cs,h,ho,_,_,hq=>by
    simp only[Zch,Option.some.injEq,Prod.mk.injEq]at h;obtain⟨rfl,_,_,rfl⟩:=h;exact hq ho
  | i ::is,listed,listed',fuel,L,L',qs,r,cs,h,ho,hc,ha,hq=>by
    simp only[Zch]at h;cases hi:(Zas c)[i]? with
    |none=>rw[hi]at h;cases h
    | some o=>
      rw[hi]at h;simp only at h;cases hd:(ZhK n o.dst&&ZdS .any (Zas c).toArray (N k) listed.toArray i)with
      |false=>rw[hd]at h;cases h
      | true=>
        rw[hd]at h;simp only at h;obtain⟨hd1,hd2⟩:=Bool.and_eq_true_iff.1 hd;have hset:(listed.toArray.setIfInBounds i true)=(listed.set i true).toArray:=by simp
        rw[List.length_cons,←Nat.add_assoc];cases hw:Zf9 (Zas c) L rest o with
        | false=>
          rw[hw]at h;simp only at h;refine wpAnyF_take k (v:=undef) i (by simpa using hi) hd2 (fun ch a w hh=>hQ ch _ a _ w hh) hS (.inr ⟨by rw[Zb1 ho];exact hw,rfl⟩) ?_;rw[hset,Zbv];exact ZeR k hQ hS is h (Zb5 ho hd1) hc ha hq
        | true=>
          rw[hw]at h;simp only at h;cases hr:Zbp P (execOp (ZaD L rest) o) qs with
          |none=>rw[hr]at h;cases h
          | some z=>
            obtain⟨x,cs1,r1⟩:=z;rw[hr]at h;cases x with
            | value v=>
              simp only at h;cases hz:Zch P n (Zas c) (N k) is (listed.set i true) (ZdJ o.dst v L) rest r1 with
              |none=>rw[hz]at h;cases h
              | some z=>
                obtain⟨L2,c2,r2,l2⟩:=z;rw[hz]at h;simp only[Option.some.injEq,Prod.mk.injEq]at h;obtain⟨rfl,rfl,rfl,rfl⟩:=h;have hsub:=(Zbw (w:=w) _ hr (fun p hp=>hc p (by simp[hp])) (ha w hS)).2;refine wpAnyF_take k (v:=v) i (by simpa using hi) hd2 (fun ch a w hh=>hQ ch _ a _ w hh) hS (.inl ⟨by rw[Zb1 ho];exact hw,fun w' hS'=>?_⟩) ?_
                · rw[Zby ho]
                  exact(Zbw (w:=w') _ hr (fun p hp=>hc p (by simp[hp])) (ha w' hS')).1
                · rw[hset,Zbv]
                  exact ZeR k hQ hS is hz (Zb5 ho hd1) (fun p hp=>hc p (by simp[hp])) (fun w' hS' q hq=>ha w' hS' q (hsub q hq)) hq
            |_=>cases h
theorem takesF {S:Nat→World→Prop}{N:Nat→List Nat}{fuel:Nat}{listed:List Bool}(k:Nat)(is ks:List Nat)(fuel':Nat)(listed':List Bool)(L':List (Nat×Value))(qs:List (Addr×Value))(hf:fuel=fuel'+is.length)
    (hQ:∀ch d (a:Act) v w,Q (.panic ch) (a.put d v) w→Q (.panic ch) a w) (hS:∀w,Sat w H→S k w) (has:∀w,S k w→∀q∈qs,w.cell? q.1=some q.2)
    (h:∀rest,takesK P n (Zas c) (N k) is ks listed L rest qs=some (L',qs.map fun q=>(q.1,q.1),listed')) (hn:FT P n L' H c S N fuel' listed' Q):FT P n L H c S N fuel listed Q:=by
  intro rest w ho hs;have h1:=h rest;unfold takesK at h1;cases hr:Zch P n (Zas c) (N k) is listed L rest qs with
  |none=>rw[hr]at h1;cases h1
  | some z=>
    obtain⟨L2,cs,r,l2⟩:=z;rw[hr]at h1;simp only at h1;cases hk:Zd4 ks L2 with
    |none=>rw[hk]at h1;cases h1
    | some L3=>
      rw[hk]at h1;simp only[Option.some.injEq,Prod.mk.injEq]at h1;obtain⟨rfl,rfl,rfl⟩:=h1;rw[hf];exact ZeR k hQ (hS w hs) is hr ho (by intro p hp;obtain⟨q,_,rfl⟩:=List.mem_map.1 hp;rfl) has (fun ho2=>PT.keep ks hk hn rest w ho2 hs)
theorem Zsu {ι:Type}{S:Nat→World→Prop}{N:Nat→List Nat}{fuel:Nat}{listed:List Bool}{d:Option Tmp}{rv:ι→Value}{Hx:ι→List SP}(i:Nat)(fuel':Nat)(listed':List Bool)(hf:fuel=fuel'+1)(hl:listed'=listed.set i true)(hr:(Region.ready .any (Zas c).toArray listed.toArray==[i]&& [i] !=[])=true)
  (hst:Step P n L H c i d rv Hx) (hS:∀k x w,Sat w (Hx x)→(N k).contains i=false→S k w) (hn:∀x,FT P n (ZdJ d (rv x) L) (Hx x) c S N fuel' listed' Q):FT P n L H c S N fuel listed Q:=by
 subst hf hl;obtain⟨hg,hd,h⟩:=hst;intro rest w ho hs;obtain⟨h1,h2,h3⟩:=Zfi (hg rest);have hio:(Zas c).toArray[i]? =some (Za5 c i):=by
  have:(Zas c)[i]? =some (Za5 c i):=by
   have e:=congrArg List.head? h1;rw[List.head?_drop,List.head?_cons]at e;exact e
  simpa using this
 refine wpAnyF_all [i] hr (AllF.cons hio (fun K hK=>?_) AllF.nil);rw[Zb1 ho,h3,if_pos rfl];refine h rest w ho hs K Q (fun x w' hs'=>?_);refine hK.out _ _ (fun k hni=>hS k x w' hs' hni) ?_;have:=hn x rest w' (Zb5 ho (hd▸h2)) hs';simpa using this
theorem Zr7 {S:Nat→World→Prop}{N:Nat→List Nat}{fuel:Nat}{listed:List Bool}(hr:(Region.ready .any (Zas c).toArray listed.toArray==[])=true)(h:PT n L H (Q .normal)):FT P n L H c S N fuel listed Q:=
 fun rest w ho hs=>Zh5 hr (h rest w ho hs)
theorem FT.pick {S:Nat→World→Prop}{N:Nat→List Nat}{fuel:Nat}{listed:List Bool}(i:Nat){X:SP}(hi:H[i]? =some X)(h:FT P n L (X::H.eraseIdx i) c S N fuel listed Q):FT P n L H c S N fuel listed Q:=PT.pick i hi h
def Ztc (S T:World→Prop):Nat→World→Prop|0=>S|_=>T
def ZsA (N M:List Nat):Nat→List Nat|0=>N|_=>M
theorem Zsr {S T:World→Prop}{N M:List Nat}{i:Nat}{ι:Type}{Hx:ι→List SP}(h0:N.contains i=true∨∀x w,Sat w (Hx x)→S w)(h1:∀x w,Sat w (Hx x)→T w):∀k x w,Sat w (Hx x)→(ZsA N M k).contains i=false→Ztc S T k w
  | 0,x,w,hs,hn=>by
    rcases h0 with h0|h0
    · rw[show ZsA N M 0=N from rfl,h0]at hn;cases hn
    · exact h0 x w hs
  |_+1,x,w,hs,_=>h1 x w hs
end
end G
end Go.Proofs.YtfhkgohokbkgiaaGreatDoor
