/- Texts put together: Trees: threads in the root, by turns, by counting. Trees: threads of the root that are ready all along, whatever others do. Trees: numbers of nodes stay below a bound; the told nodes. Timers, plainly. A kernel's state, plainly: what its operations make of it; what holds of it all the time. Rings, boxes, purses, ledgers, latches, plainly. Labels: label.Leq, tontineref1.Leq. check: who may what. G: make of rows. A latch as one part of memory: its operations. slices.Insert, slices.Delete of one element at rows of api.Record. A ring as one part of memory: its operations. slices.Insert, slices.Delete of one element at rows of api.Letter. Boxes, purses as parts of memory: their operations. slices.Insert, slices.Delete of one element at rows of int. Rows of numbers: slices.Index, Contains, Delete. Objects as one part of memory: their operations. Objects: New, Wait. Objects: Signal, New. G: slices of slices; stores of whole elements. G: clear of a row's end. Rows of numbers: slices.IndexFunc, DeleteFunc of one number. Objects: Drop. Objects as one part of memory: what its operations make of it. slices.Insert, slices.Delete of one element at rows of timer.sleeper. Conditions: none. -/
import Derived.Test.YtfhkgohokbkgiaaGreatDoorMgWp1
import Derived.Deep.OwnRows
set_option linter.unusedSimpArgs false
set_option linter.unusedVariables false
set_option maxRecDepth 100000
set_option maxHeartbeats 1000000
namespace Go.Proofs.YtfhkgohokbkgiaaGreatDoor
open Go.RowKit G Tryz
structure ThI (W:Nat→Int)(u:Nat)(N:List Nr):Prop where
 wf:WFN N
 all:∀z∈N,z.id=0∨∃j:Nat,j<u∧z.id=(j:Int)+1∧z.par=0∧z.wt=W j∧z.thr=true∧z.rdy=true
 has:∀j:Nat,j<u→∃z∈N,z.id=(j:Int)+1
 zero:∀z∈N,z.pass=0∧z.now=0
 len:N.length=1+u
theorem ThI.start (W:Nat→Int):ThI W 0 [rootN]:=
 ⟨Ze1,fun z hz=>by simp at hz;subst hz;exact .inl rfl,fun j hj=>by omega,fun z hz=>by simp at hz;subst hz;exact⟨rfl,rfl⟩,rfl⟩
theorem ThI.add {W:Nat→Int}{u:Nat}{N:List Nr}(h:ThI W u N)(hu:u<8){w:Int}(hw:isW w=true)(hWu:W u=w):∃N1 N2,Zbs N 0 ((u:Int)+1) w true=(0,N1)∧Zag N1 ((u:Int)+1) true=(0,N2)∧ThI W (u+1) N2:=by
 obtain⟨p,hp,hpi⟩:=h.wf.sk.root;have hpt:=(h.wf.sk.rt p hp hpi).2;have hno:∀z∈N,z.id≠(u:Int)+1:=fun z hz e=>by
  rcases h.all z hz with h1|⟨j,hj,h1,_⟩<;>omega
 have hA:=ZgC (N:=N) (par:=0) (id:=(u:Int)+1) (wt:=w) (thr:=true) (p:=p) hw (by omega) (hpi▸ZbY h.wf.sk.nd hp) hpt (ZaX.2 hno) (.inl rfl) (by rw[h.len];omega);rw[(h.zero p hp).2]at hA;have hw1:WFN (N++[⟨(u:Int)+1,0,w,0,true,false,0⟩]):=by
  have:=Zf2 h.wf 0 ((u:Int)+1) w true;rw[hA]at this;exact this
 have hm:∀z,z∈N++[⟨(u:Int)+1,0,w,0,true,false,0⟩]↔z∈N∨z=⟨(u:Int)+1,0,w,0,true,false,0⟩:=fun z=>by simp
 have hgn:gt (N++[⟨(u:Int)+1,0,w,0,true,false,0⟩]) ((u:Int)+1)=some ⟨(u:Int)+1,0,w,0,true,false,0⟩:=ZbY hw1.sk.nd ((hm _).2 (.inr rfl));obtain⟨g,hk,he,hr⟩:=Zib 6 (N++[⟨(u:Int)+1,0,w,0,true,false,0⟩]) ((u:Int)+1);have hR:Zag (N++[⟨(u:Int)+1,0,w,0,true,false,0⟩]) ((u:Int)+1) true=(0,List.map g (N++[⟨(u:Int)+1,0,w,0,true,false,0⟩]:List Nr)):=by
  rw[Zag,hgn];simp only[if_true];rw[he]
 have hw2:WFN (List.map g (N++[⟨(u:Int)+1,0,w,0,true,false,0⟩]:List Nr)):=by
  have:=Zcv hw1 ((u:Int)+1) true;rw[hR]at this;exact this
 refine⟨_,_,hA,hR,?_⟩;have hz0:∀z∈N++[⟨(u:Int)+1,0,w,0,true,false,0⟩],z.pass=0∧z.now=0:=fun z hz=>by
  rcases(hm z).1 hz with hz|rfl
  ·exact h.zero z hz
  ·exact⟨rfl,rfl⟩
 refine⟨hw2,fun z hz=>?_,fun j hj=>?_,fun z hz=>?_,by rw[List.length_map,List.length_append,h.len];simp;omega⟩
 ·obtain⟨v,hv,rfl⟩:=List.mem_map.1 hz
  rw[hk.sk.id,hk.sk.par,hk.sk.thr,(hk.wt v).1];rcases(hm v).1 hv with hv'|rfl
  ·rcases h.all v hv' with h1|⟨j,hj,h1,h2,h3,h4,h5⟩
   ·exact .inl h1
   ·exact .inr ⟨j,by omega,h1,h2,h3,h4,hk.rdy v h5⟩
  ·exact .inr ⟨u,by omega,rfl,rfl,hWu.symm,rfl,hr (by omega) _ hv hw1.sk.nd rfl⟩
 ·by_cases c:j=u
  ·subst c;exact⟨_,List.mem_map.2 ⟨_,(hm _).2 (.inr rfl),rfl⟩,hk.sk.id _⟩
  ·obtain⟨z,hz,e⟩:=h.has j (by omega)
   exact⟨g z,List.mem_map.2 ⟨z,(hm z).2 (.inl hz),rfl⟩,by rw[hk.sk.id,e]⟩
 ·obtain⟨v,hv,rfl⟩:=List.mem_map.1 hz
  exact⟨hk.zero hz0 v hv,by rw[(hk.wt v).2];exact(hz0 v hv).2⟩
structure ThJ (W:Nat→Int)(m:Nat)(S:List (Int×Int×Int×Bool×Bool)):Prop where
 all:∀s∈S,(s.1=0∧s.2.1= -1∧s.2.2.2.1=false)∨∃j:Nat,j<m∧s=((j:Int)+1,0,W j,true,true)
 has:∀j:Nat,j<m→((j:Int)+1,0,W j,true,true)∈S
 r0:∃w,(0,-1,w,false,true)∈S
theorem ThI.done {W:Nat→Int}{m:Nat}{N:List Nr}(h:ThI W m N)(hm:1≤m):ThJ W m (N.map skr):=by
 have get:∀j:Nat,j<m→∃z∈N,z.id=(j:Int)+1∧z.par=0∧z.wt=W j∧z.thr=true∧z.rdy=true:=fun j hj=>by
  obtain⟨z,hz,e⟩:=h.has j hj;rcases h.all z hz with h1|⟨i,_,h1,h2⟩
  ·omega
  ·have:i=j:=by omega
   subst this;exact⟨z,hz,e,h2⟩
 obtain⟨r,hr,e0⟩:=h.wf.sk.root;have hrt:=h.wf.sk.rt r hr e0;have g0:r.rdy=true:=by
  obtain⟨z,hz,h1,h2,_,_,h5⟩:=get 0 (by omega);exact(h.wf.rd r hr hrt.2).2 ⟨z,hz,by rw[h2,e0],h5⟩
 refine⟨fun s hs=>?_,fun j hj=>?_,⟨r.wt,List.mem_map.2 ⟨r,hr,by simp[skr,e0,hrt.1,hrt.2,g0]⟩⟩⟩
 ·obtain⟨z,hz,rfl⟩:=List.mem_map.1 hs
  rcases h.all z hz with h1|⟨j,hj,h1,h2,h3,h4,h5⟩
  ·exact .inl ⟨h1,h.wf.sk.rt z hz h1⟩
  ·exact .inr ⟨j,hj,by simp[skr,h1,h2,h3,h4,h5]⟩
 ·obtain⟨z,hz,h1,h2,h3,h4,h5⟩:=get j hj
  exact List.mem_map.2 ⟨z,hz,by simp[skr,h1,h2,h3,h4,h5]⟩
def ZeD (xs:List Int)(j:Nat):Int:=xs.getD (j+1) 0
def Zft (xs:List Int):Nat→Int
 |0=>0
 |m+1=>Zft xs m+ZeD xs m
def ZlM (W:Nat→Int):Nat→Int
 |0=>0
 |m+1=>ZlM W m+W m
theorem Zfn {xs:List Int}{j i:Nat}{v:Int}(hj:j+1<xs.length):ZeD (xs.set (j+1) v) i=if i=j then v else ZeD xs i:=by
 unfold ZeD;rw[List.getD_eq_getElem?_getD,List.getElem?_set,List.getD_eq_getElem?_getD];by_cases c:i=j
 ·subst c;simp[hj]
 ·rw[if_neg (by omega),if_neg c]
theorem ZlJ {xs:List Int}{j:Nat}(hj:j+1<xs.length):∀m,Zft (xs.set (j+1) (ZeD xs j+1)) m=Zft xs m+if j<m then 1 else 0
  |0=>by simp[Zft]
  | m +1=>by
    rw[Zft,Zft,ZlJ hj m,Zfn hj];by_cases c:m=j
    · subst c;simp;omega
    · rw[if_neg c]
      by_cases d:j<m
      · rw[if_pos d,if_pos (by omega)];omega
      · rw[if_neg d,if_neg (by omega)];omega
theorem Zo7 {xs:List Int}{W:Nat→Int}:∀{m:Nat},(∀j,j<m→ZeD xs j≤W j)→Zft xs m<ZlM W m→∃j,j<m∧ZeD xs j<W j
  |0,_,h=>by simp[Zft,ZlM]at h
  | m +1,hc,h=>by
    by_cases c:ZeD xs m<W m
    · exact⟨m,by omega,c⟩
    · have h1:=hc m (by omega)
      rw[Zft,ZlM]at h;obtain⟨j,hj,h2⟩:=Zo7 (m:=m) (fun j hj=>hc j (by omega)) (by omega);exact⟨j,by omega,h2⟩
theorem Zo8 {xs:List Int}{W:Nat→Int}:∀{m:Nat},(∀j,j<m→ZeD xs j≤W j)→Zft xs m≤ZlM W m
  |0,_=>by simp[Zft,ZlM]
  | m+1,hc=>by
    have h1:=hc m (by omega);have h2:=Zo8 (m:=m) (fun j hj=>hc j (by omega));rw[Zft,ZlM];omega
theorem Zo9 {xs:List Int}{W:Nat→Int}:∀{m:Nat},(∀j,j<m→ZeD xs j≤W j)→Zft xs m=ZlM W m→∀j,j<m→ZeD xs j=W j
  |0,_,_,j,hj=>by omega
  | m+1,hc,h,j,hj=>by
    have h1:=hc m (by omega);have h2:=Zo8 (m:=m) (fun j hj=>hc j (by omega));rw[Zft,ZlM]at h;by_cases c:j=m
    · subst c;omega
    · exact Zo9 (m:=m) (fun j hj=>hc j (by omega)) (by omega) j (by omega)
theorem Zed {w:Int}(h:isW w=true):w*ZaH w=720720:=by
 obtain⟨h1,h2⟩:=Zdi h;have:w=1∨w=2∨w=3∨w=4∨w=5∨w=6∨w=7∨w=8∨w=9∨w=10∨w=11∨w=12∨w=13∨w=14∨w=15∨w=16:=by omega
 rcases this with rfl|rfl|rfl|rfl|rfl|rfl|rfl|rfl|rfl|rfl|rfl|rfl|rfl|rfl|rfl|rfl<;>decide
structure Rnd (W:Nat→Int)(m:Nat)(N:List Nr)(xs:List Int):Prop where
 len:xs.length=8
 le:∀j,j<m→0≤ZeD xs j∧ZeD xs j≤W j
 ps:∃Q:Int,∀j:Nat,j<m→ps N ((j:Int)+1)=Q+ZeD xs j*ZaH (W j)
theorem Rnd.step {W:Nat→Int}{m:Nat}{N N':List Nr}{xs:List Int}(h:Rnd W m N xs)(hm:m≤7)(hW:∀j,j<m→isW (W j)=true)(ht:Zft xs m<ZlM W m){j:Nat}(hj:j<m)
  (hmin:∀i:Nat,i<m→Go.Proofs.YtfhkgohokbkgiaaGreatDoor.ps N ((j:Int)+1)≤Go.Proofs.YtfhkgohokbkgiaaGreatDoor.ps N ((i:Int)+1)) {δ:Int} (hd:∀i:Nat,i<m→Go.Proofs.YtfhkgohokbkgiaaGreatDoor.ps N' ((i:Int)+1)=Go.Proofs.YtfhkgohokbkgiaaGreatDoor.ps N ((i:Int)+1)+(if i=j then ZaH (W j)else 0)-δ):
  Rnd W m N' (xs.set (j+1) (ZeD xs j+1))∧Zft (xs.set (j+1) (ZeD xs j+1)) m=Zft xs m+1:=by
 have hl:=h.len;obtain⟨Q,hQ⟩:=h.ps;obtain⟨i,hi,hlt⟩:=Zo7 (fun j hj=>(h.le j hj).2) ht;have key:ZeD xs j<W j:=by
  have h1:=hmin i hi;rw[hQ j hj,hQ i hi]at h1;have h2:=Zed (hW i hi);have h3:=Zed (hW j hj);have h4:=(ZaV (hW i hi)).1;have h5:=(ZaV (hW j hj)).1;have h6:(ZeD xs i+1)*ZaH (W i)≤W i*ZaH (W i):=Int.mul_le_mul_of_nonneg_right (by omega) (by omega);rw[Int.add_mul]at h6;have h7:¬W j≤ZeD xs j:=fun c=>by
   have:=Int.mul_le_mul_of_nonneg_right (c:=ZaH (W j)) c (by omega);omega
  omega
 refine⟨⟨by rw[List.length_set];exact hl,fun k hk=>?_,Q-δ,fun k hk=>?_⟩,by rw[ZlJ (by omega),if_pos hj]⟩
 ·rw[Zfn (by omega)]
  by_cases c:k=j
  ·subst c;rw[if_pos rfl];have:=h.le k hk;omega
  ·rw[if_neg c];exact h.le k hk
 ·rw[hd k hk,hQ k hk,Zfn (by omega)]
  by_cases c:k=j
  ·subst c;rw[if_pos rfl,if_pos rfl,Int.add_mul];omega
  ·rw[if_neg c,if_neg c];omega
theorem Rnd.done {W:Nat→Int}{m:Nat}{N:List Nr}{xs:List Int}(h:Rnd W m N xs)(hW:∀j,j<m→isW (W j)=true)(ht:Zft xs m=ZlM W m):(∀j,j<m→ZeD xs j=W j)∧∃Q,∀j:Nat,j<m→Go.Proofs.YtfhkgohokbkgiaaGreatDoor.ps N ((j:Int)+1)=Q:=by
 have hc:=Zo9 (fun j hj=>(h.le j hj).2) ht;obtain⟨Q,hQ⟩:=h.ps;exact⟨hc,Q+720720,fun j hj=>by rw[hQ j hj,hc j hj,Zed (hW j hj)]⟩
theorem Rnd.fresh {W:Nat→Int}{m:Nat}{N:List Nr}(hm:m≤7)(hW:∀j,j<m→isW (W j)=true){Q:Int}(h:∀j:Nat,j<m→Go.Proofs.YtfhkgohokbkgiaaGreatDoor.ps N ((j:Int)+1)=Q):Rnd W m N [0,0,0,0,0,0,0,0]∧Zft [0,0,0,0,0,0,0,0] m=0:=by
 have z:∀j,j<7→ZeD [0,0,0,0,0,0,0,0] j=0:=fun j hj=>by
  have:j=0∨j=1∨j=2∨j=3∨j=4∨j=5∨j=6:=by omega
  rcases this with rfl|rfl|rfl|rfl|rfl|rfl|rfl<;>rfl
 refine⟨⟨rfl,fun j hj=>?_,Q,fun j hj=>by rw[h j hj,z j (by omega)];simp⟩,?_⟩
 ·rw[z j (by omega)];have:=Zdi (hW j hj);omega
 ·have:∀k,k≤m→Zft [0,0,0,0,0,0,0,0] k=0:=fun k=>by
   induction k with
   |zero=>intro _;rfl
   |succ k ih=>intro hk;rw[Zft,ih (by omega),z k (by omega)];rfl
  exact this m (Nat.le_refl _)
theorem ZgK : ∀ (f:Nat) (N:List Nr) (k:Int),(N.map (·.id)).Nodup→∃g,Skel g∧(∀x∈N,x.rdy=true→g x=x)∧Zbk f N k=N.map g
  |0,N,k,_=>⟨fun x=>x,Skel.same,fun _ _ _=>rfl,by simp[Zbk]⟩
  | f + 1,N,k,hn=>by
    rw[Zbk];cases hg:gt N k with
    |none=>exact⟨fun x=>x,Skel.same,fun _ _ _=>rfl,by simp⟩
    | some x0=>
      obtain⟨hx0,hk0⟩:=ZaL hg;simp only;by_cases hr:x0.rdy=true
      · rw[if_pos hr];exact⟨fun x=>x,Skel.same,fun _ _ _=>rfl,by simp⟩
      · rw [if_neg hr]
        have hne:∀x∈N,x.rdy=true→x.id≠k:=fun x hx h e=>hr (by rw[←nd_eq hn hx hx0 (by rw[e,hk0])];exact h)
        cases hp:gt N x0.par with
        |none=>exact⟨fun x=>if x.id==k then {x with rdy:=true}else x,Zbm (f:=fun x=>{x with rdy:=true}) skF,fun x hx h=>by simp[hne x hx h],rfl⟩
        | some p=>
          simp only;obtain⟨g,h1,h2,h3⟩:=ZgK f (upN N k (wkF p.now)) x0.par (by rw[Zdu (f:=wkF p.now) (fun _=>rfl)];exact hn);refine⟨fun x=>g (if x.id==k then wkF p.now x else x),(Zbm (Zbg p.now)).comp h1,fun x hx h=>?_,?_⟩
          · have e:(if x.id==k then wkF p.now x else x)=x:=by simp[hne x hx h]
            show g (if x.id==k then wkF p.now x else x)=x;rw[e];exact h2 x (List.mem_map.2 ⟨x,hx,e⟩) h
          · have e:Zbk f (upN N k fun x=>{x with rdy:=true,pass:=mxI x.pass p.now}) x0.par=_:=h3
            rw[e,upN,List.map_map];rfl
theorem ZiL {N:List Nr}(hs:SK N){x p:Nr}(hx:x∈N)(hp:p∈N)(e:p.id=x.par):p.thr=false:=by
 by_cases c:x.id=0
 ·have h1:=(hs.rt x hx c).1
  have h2:=hs.neg (k:=p.id) (by omega);rw[ZbY hs.nd hp]at h2;cases h2
 ·obtain⟨_,p',hp',h1,h2⟩:=hs.pa x hx c
  rw[nd_eq hs.nd hp hp' (by rw[e,h1])];exact h2
theorem Zdb : ∀ (f:Nat) (N:List Nr) (k:Int),SK N→∃g,Skel g∧(∀x∈N,x.thr=true→x.id≠k→g x=x)∧restN f N k=N.map g
  |0,N,k,_=>⟨fun x=>x,Skel.same,fun _ _ _ _=>rfl,by simp[restN]⟩
  | f + 1,N,k,hs=>by
    rw[restN];cases hg:gt N k with
    |none=>exact⟨fun x=>x,Skel.same,fun _ _ _ _=>rfl,by simp⟩
    | some x0=>
      obtain⟨hx0,hk0⟩:=ZaL hg;simp only;by_cases hr:x0.rdy=false∨Zcy N k≠ []
      · rw[if_pos hr];exact⟨fun x=>x,Skel.same,fun _ _ _ _=>rfl,by simp⟩
      · rw [if_neg hr]
        cases hp:gt N x0.par with
        |none=>exact⟨fun x=>if x.id==k then {x with rdy:=false}else x,Zbm (f:=fun x=>{x with rdy:=false}) skF,fun x hx _ h=>by simp[h],rfl⟩
        | some p=>
          obtain⟨hpN,hpi⟩:=ZaL hp;have hpt:=ZiL hs hx0 hpN hpi;simp only;obtain⟨g,h1,h2,h3⟩:=Zdb f (upN N k rsF) x0.par (hs.upN Zbd);refine⟨fun x=>g (if x.id==k then rsF x else x),(Zbm Zbd).comp h1,fun x hx ht h=>?_,?_⟩
          · have e:(if x.id==k then rsF x else x)=x:=by simp[h]
            show g (if x.id==k then rsF x else x)=x;rw[e];refine h2 x (List.mem_map.2 ⟨x,hx,e⟩) ht fun e2=>?_
            have:=nd_eq hs.nd hx hpN (by rw[e2,hpi]);subst this;rw[hpt]at ht;cases ht
          · have e:restN f (upN N k fun x=>{x with rdy:=false}) x0.par=_:=h3
            rw[e,upN,List.map_map];rfl
theorem ZfQ {N :List Nr} (hs:SK N) (k:Int) (r:Bool):(∀z∈N,z.thr=true→z.rdy=true→z.id≠k→z∈(Zag N k r).2)∧∀z∈(Zag N k r).2,∃v∈N,v.id=z.id∧v.thr=z.thr:=by
  have same:(∀z∈N,z.thr=true→z.rdy=true→z.id≠k→z∈N)∧∀z∈N,∃v∈N,v.id=z.id∧v.thr=z.thr:=⟨fun z h _ _ _=>h,fun z h=>⟨z,h,rfl,rfl⟩⟩
  have mp:∀g,Skel g→(∀x∈N,x.thr=true→x.rdy=true→x.id≠k→g x=x)→(∀z∈N,z.thr=true→z.rdy=true→z.id≠k→z∈N.map g)∧∀z∈N.map g,∃v∈N,v.id=z.id∧v.thr=z.thr:=fun g hg h=>
    ⟨fun z hz h1 h2 h3=>List.mem_map.2 ⟨z,hz,h z hz h1 h2 h3⟩,fun z hz=>by obtain⟨v,hv,rfl⟩:=List.mem_map.1 hz;exact⟨v,hv,(hg.id v).symm,(hg.thr v).symm⟩⟩
  rw[Zag];cases gt N k with
  |none=>exact same
  | some x=>
    simp only;split
    · split
      · obtain⟨g,h1,h2,h3⟩:=ZgK 6 N k hs.nd
        simp only[h3];exact mp g h1 fun x hx _ hr _=>h2 x hx hr
      · obtain⟨g,h1,h2,h3⟩:=Zdb 6 N k hs
        simp only[h3];exact mp g h1 fun x hx ht _ hk=>h2 x hx ht hk
    · exact same
theorem ZdB {N :List Nr} (k W:Int):(∀z∈N,z.id≠k→z∈(Zaq N k W).2)∧∀z∈(Zaq N k W).2,∃v∈N,v.id=z.id∧v.thr=z.thr:=by
  have same:(∀z∈N,z.id≠k→z∈N)∧∀z∈N,∃v∈N,v.id=z.id∧v.thr=z.thr:=⟨fun z h _=>h,fun z h=>⟨z,h,rfl,rfl⟩⟩
  rw[Zaq];split
  · exact same
  · split
    · exact same
    · split
      · exact same
      · split
        · exact same
        · refine⟨fun z hz h=>Za0.2 ⟨z,hz,.inr ⟨h,rfl⟩⟩,fun z hz=>?_⟩
          obtain⟨v,hv,⟨_,rfl⟩|⟨_,rfl⟩⟩:=Za0.1 hz
          · exact⟨v,hv,rfl,rfl⟩
          · exact⟨z,hv,rfl,rfl⟩
theorem ZeF {N:List Nr}(hs:SK N){y:Nr}(hy:y∈N)(ht:y.thr=true):∀z∈N,z.par≠y.id:=fun z hz e=>by
 have:=ZiL hs hz hy e.symm;rw[ht]at this;cases this
structure FaI (W:Nat→Int)(m:Nat)(N:List Nr):Prop where
 wf:WFN N
 has:∀j:Nat,j<m→∃z∈N,z.id=(j:Int)+1∧z.par=0∧z.wt=W j∧z.thr=true∧z.rdy=true
 thr:∀z∈N,z.thr=true→(∃j:Nat,j<m∧z.id=(j:Int)+1)∨z.id=20∨z.id=22
structure FaR (W:Nat→Int)(m:Nat)(N:List Nr)(xs:List Int)(n:Int):Prop where
 len:xs.length=8
 le:∀j,j<m→0≤ZeD xs j∧ZeD xs j≤n
 ps:∃Q:Int,∀j:Nat,j<m→ps N ((j:Int)+1)=Q+ZeD xs j*ZaH (W j)
theorem FaI.keep {W:Nat→Int}{m:Nat}{N N':List Nr}(h:FaI W m N)(hw:WFN N'){k:Int}(hk:k=20∨k=22)(hm:m≤8)(h1:∀z∈N,z.thr=true→z.rdy=true→z.id≠k→z∈N')(h2:∀z∈N',∃v∈N,v.id=z.id∧v.thr=z.thr):
  FaI W m N'∧∀j:Nat,j<m→ps N' ((j:Int)+1)=ps N ((j:Int)+1):=by
 have g:∀j:Nat,j<m→∃z∈N,z∈N'∧z.id=(j:Int)+1∧z.par=0∧z.wt=W j∧z.thr=true∧z.rdy=true:=fun j hj=>by
  obtain⟨z,hz,e1,e2,e3,e4,e5⟩:=h.has j hj;exact⟨z,hz,h1 z hz e4 e5 (by omega),e1,e2,e3,e4,e5⟩
 refine⟨⟨hw,fun j hj=>?_,fun z hz ht=>?_⟩,fun j hj=>?_⟩
 ·obtain⟨z,_,hz',e⟩:=g j hj;exact⟨z,hz',e⟩
 ·obtain⟨v,hv,e1,e2⟩:=h2 z hz
  rw[←e1];exact h.thr v hv (by rw[e2,ht])
 ·obtain⟨z,hz,hz',e,_⟩:=g j hj
  rw[←e,ZrD hw.sk.nd hz',ZrD h.wf.sk.nd hz]
theorem FaI.ready {W:Nat→Int}{m:Nat}{N:List Nr}(h:FaI W m N)(hm:m≤8){k:Int}(hk:k=20∨k=22)(r:Bool):FaI W m (Zag N k r).2∧∀j:Nat,j<m→ps (Zag N k r).2 ((j:Int)+1)=ps N ((j:Int)+1):=
 h.keep (Zcv h.wf k r) hk hm (ZfQ h.wf.sk k r).1 (ZfQ h.wf.sk k r).2
theorem FaI.weight {W:Nat→Int}{m:Nat}{N:List Nr}(h:FaI W m N)(hm:m≤8)(V:Int):FaI W m (Zaq N 20 V).2∧∀j:Nat,j<m→ps (Zaq N 20 V).2 ((j:Int)+1)=ps N ((j:Int)+1):=
 h.keep (ZeO h.wf 20 V) (.inl rfl) hm (fun z hz _ _ hk=>(ZdB 20 V).1 z hz hk) (ZdB 20 V).2
theorem FaR.step {W:Nat→Int}{m:Nat}{N N':List Nr}{xs:List Int}{n:Int}(h:FaR W m N xs n)(hm:m≤7){j:Nat}(hj:j<m){δ:Int}(hd:∀i:Nat,i<m→Go.Proofs.YtfhkgohokbkgiaaGreatDoor.ps N' ((i:Int)+1)=Go.Proofs.YtfhkgohokbkgiaaGreatDoor.ps N ((i:Int)+1)+(if i=j then ZaH (W j)else 0)-δ):FaR W m N' (xs.set (j+1) (ZeD xs j+1)) (n+1):=by
 have hl:=h.len;obtain⟨Q,hQ⟩:=h.ps;refine⟨by rw[List.length_set];exact hl,fun k hk=>?_,Q-δ,fun k hk=>?_⟩
 ·rw[Zfn (by omega)]
  have:=h.le k hk;by_cases c:k=j
  ·subst c;rw[if_pos rfl];omega
  ·rw[if_neg c];omega
 ·rw[hd k hk,hQ k hk,Zfn (by omega)]
  by_cases c:k=j
  ·subst c;rw[if_pos rfl,if_pos rfl,Int.add_mul];omega
  ·rw[if_neg c,if_neg c];omega
theorem FaR.same {W:Nat→Int}{m:Nat}{N N':List Nr}{xs:List Int}{n:Int}(h:FaR W m N xs n)(hd:∀i:Nat,i<m→Go.Proofs.YtfhkgohokbkgiaaGreatDoor.ps N' ((i:Int)+1)=Go.Proofs.YtfhkgohokbkgiaaGreatDoor.ps N ((i:Int)+1)):FaR W m N' xs n:=by
 obtain⟨Q,hQ⟩:=h.ps;exact⟨h.len,h.le,Q,fun k hk=>by rw[hd k hk,hQ k hk]⟩
def IdB (N:List Nr):Prop:=∀x∈N,x.id≤9223372036854775807
theorem IdB.map {N:List Nr}(h:IdB N){g:Nr→Nr}(hg:Skel g):IdB (N.map g):=fun x hx=>by
 obtain⟨y,hy,rfl⟩:=List.mem_map.1 hx;rw[hg.id];exact h y hy
theorem Zdo (N:List Nr)(k:Int)(r:Bool):∃g,Skel g∧(Zag N k r).2=N.map g:=by
  have same:∃g,Skel g∧N=N.map g:=⟨fun x=>x,Skel.same,by simp⟩
  rw[Zag];cases gt N k with
  |none=>exact same
  | some x=>
    simp only;split
    · split
      · obtain⟨g,h1,_,h3⟩:=ZgM 6 N k;exact⟨g,h1,h3⟩
      · obtain⟨g,h1,_,h3⟩:=ZbB 6 N k;exact⟨g,h1,h3⟩
    · exact same
theorem IdB.ready {N:List Nr}(h:IdB N)(k:Int)(r:Bool):IdB (Zag N k r).2:=by
 obtain⟨g,h1,h2⟩:=Zdo N k r;rw[h2];exact h.map h1
theorem IdB.add {N :List Nr} (h:IdB N) (par id wt:Int) (thr:Bool) (hi:id≤9223372036854775807):IdB (Zbs N par id wt thr).2:=by
  rw[Zbs];split
  · exact h
  · split
    · exact h
    · split
      · exact h
      · split
        · exact h
        · split
          · exact h
          · split
            · exact h
            · intro x hx
              rcases List.mem_append.1 hx with hx|hx
              · exact h x hx
              · simp at hx;subst hx;exact hi
theorem IdB.remove {N:List Nr}(h:IdB N)(k:Int):IdB (Zap N k).2:=by
 rw[Zap];split
 ·exact h
 ·split
  ·exact h
  ·obtain⟨g,h1,_,h3⟩:=ZbB 6 N k
   intro x hx;have hx:=(List.mem_filter.1 hx).1;rw[h3]at hx;exact h.map h1 x hx
theorem IdB.weight {N :List Nr} (h:IdB N) (k W:Int):IdB (Zaq N k W).2:=by
  rw[Zaq];split
  · exact h
  · split
    · exact h
    · split
      · exact h
      · split
        · exact h
        · exact h.map (Zbm ⟨fun _=>rfl,fun _=>rfl,fun _=>rfl⟩)
theorem IdB.run {N:List Nr}(h:IdB N)(hw:WFN N):IdB (Zcd N).2:=by
  cases hg:gt N 0 with
  |none=>rw[Zcd,hg];exact h
  | some r=>
    cases hr:r.rdy with
    |true=>obtain⟨y,id,g,h1,h2,_⟩:=Zgg hw hg hr;rw[h1];exact h.map h2.sk
    |false=>rw[Zcd,hg];simp only[hr,Bool.false_eq_true,if_false];exact h
end Go.Proofs.YtfhkgohokbkgiaaGreatDoor
namespace Go.Proofs.YtfhkgohokbkgiaaGreatDoor
open Go.RowKit
def ZaN (id:Int):List (Int×Int)→Nat×Bool
 | []=>(0,false)
 |x::r=>if id<x.1 then(0,false)else if x.1=id then(0,true)else((ZaN id r).1+1,(ZaN id r).2)
def Zbq (id u:Int):List (Int×Int)→List (Int×Int)
 | []=> [(id,u)]
 |x::r=>if id<x.1 then(id,u)::x::r else if x.1=id then(id,u)::r else x::Zbq id u r
def Zbi (id:Int):List (Int×Int)→List (Int×Int)
 | []=> []
 |x::r=>if id<x.1 then x::r else if x.1=id then r else x::Zbi id r
theorem Zec (id:Int):∀l,(ZaN id l).1≤l.length
  | []=>Nat.le_refl _
  | x ::r=>by
    have:=Zec id r;simp only[ZaN];split
    · simp
    · split
      · simp
      · simp;omega
theorem ZcN (id u:Int):∀l,(ZaN id l).2=true→∃x,l[(ZaN id l).1]? =some x∧x.1=id∧Zbq id u l=l.set (ZaN id l).1 (id,u)∧Zbi id l=l.take (ZaN id l).1++l.drop ((ZaN id l).1+1)
  | [],h=>by simp[ZaN]at h
  | x ::r,h=>by
    simp only[ZaN]at h ⊢;by_cases h1:id<x.1
    · simp[h1]at h
    · by_cases h2:x.1=id
      · simp only[if_neg h1,if_pos h2,Zbq,Zbi]
        exact⟨x,by simp,h2,by simp,by simp⟩
      · simp only[if_neg h1,if_neg h2,Zbq,Zbi]at h ⊢
        obtain⟨y,hy,he,hs,hd⟩:=ZcN id u r h;exact⟨y,by simpa using hy,he,by simp[hs],by simp[hd]⟩
theorem ZdC (id u:Int):∀l,(ZaN id l).2=false→Zbq id u l=l.take (ZaN id l).1++(id,u)::l.drop (ZaN id l).1∧Zbi id l=l
  | [],h=>by simp[ZaN,Zbq,Zbi]
  | x ::r,h=>by
    simp only[ZaN]at h ⊢;by_cases h1:id<x.1
    · simp[h1,Zbq,Zbi]
    · by_cases h2:x.1=id
      · simp[h1,h2]at h
      · simp only[if_neg h1,if_neg h2,Zbq,Zbi]at h ⊢
        obtain⟨hs,hd⟩:=ZdC id u r h;exact⟨by simp[hs],by rw[hd]⟩
def Zbf (t:Int)(l:List (Int×Int)):List Int:=(l.filter (fun p=>decide (p.2≤t))).map (·.1)
def ZaU (t:Int)(l:List (Int×Int)):List (Int×Int):=l.filter (fun p=> !decide (p.2≤t))
theorem ZjW (t:Int)(l:List (Int×Int))(k:Nat)(y:Int×Int)(hy:l[k]? =some y):(y.2≤t→Zbf t (l.take (k+1))=Zbf t (l.take k)++[y.1]∧ZaU t (l.take (k+1))=ZaU t (l.take k))∧(t<y.2→Zbf t (l.take (k+1))=Zbf t (l.take k)∧ZaU t (l.take (k+1))=ZaU t (l.take k)++[y]):=by
 have ht:l.take (k+1)=l.take k++[y]:=by rw[List.take_add_one,hy];rfl
 rw[ht];constructor
 ·intro h;simp[Zbf,ZaU,List.filter_append,h]
 ·intro h
  have:¬y.2≤t:=by omega
  simp[Zbf,ZaU,List.filter_append,this]
theorem ZqP (t:Int)(l:List (Int×Int))(k:Nat):(Zbf t (l.take k)).length≤k∧(ZaU t (l.take k)).length≤k:=by
 have:=List.length_take_le k l;constructor
 ·simp only[Zbf,List.length_map];exact Nat.le_trans (List.length_filter_le _ _) this
 ·exact Nat.le_trans (List.length_filter_le _ _) this
def Srt (l:List (Int×Int)):Prop:=l.Pairwise (fun a b=>a.1<b.1)
theorem Srt.nil :Srt []:=List.Pairwise.nil
theorem Zd0 (id u :Int):∀(l:List (Int×Int)),Srt l→∀x,x∈Zbq id u l↔x=(id,u)∨(x.1≠id∧x∈l)
  | [],_,x=>by simp[Zbq]
  | y :: r, h,x=>by
    have h1:=List.pairwise_cons.1 h;unfold Zbq;by_cases hlt:id<y.1
    · rw [if_pos hlt]
      constructor
      · intro hx
        rcases List.mem_cons.1 hx with h|h
        · exact .inl h
        · refine .inr ⟨?_,h⟩
          rcases List.mem_cons.1 h with rfl|h
          · omega
          · have:=h1.1 x h;omega
      · rintro(h|⟨_,h⟩)
        · simp[h]
        · simp[List.mem_cons.1 h]
    · rw [if_neg hlt]
      by_cases he:y.1=id
      · rw [if_pos he]
        constructor
        · intro hx
          rcases List.mem_cons.1 hx with h|h
          · exact .inl h
          · exact .inr ⟨by have:=h1.1 x h;omega,by simp[h]⟩
        · rintro(h|⟨hn,h⟩)
          · simp[h]
          · rcases List.mem_cons.1 h with rfl|h
            · exact absurd he hn
            · simp[h]
      · rw[if_neg he,List.mem_cons,Zd0 id u r h1.2 x,List.mem_cons]
        constructor
        · rintro(rfl|h|⟨h1,h2⟩)
          · exact .inr ⟨he,.inl rfl⟩
          · exact .inl h
          · exact .inr ⟨h1,.inr h2⟩
        · rintro(h|⟨h1,rfl|h2⟩)
          · exact .inr (.inl h)
          · exact .inl rfl
          · exact .inr (.inr ⟨h1,h2⟩)
theorem Srt.set {l :List (Int×Int)} (id u:Int) (h:Srt l):Srt (Zbq id u l):=by
  induction l with
  |nil=>exact List.pairwise_singleton _ _
  | cons y r ih=>
    have h1:=List.pairwise_cons.1 h;unfold Zbq;by_cases hlt:id<y.1
    · rw[if_pos hlt]
      exact List.pairwise_cons.2 ⟨fun x hx=>by
        rcases List.mem_cons.1 hx with rfl|hx
        · exact hlt
        · have:=h1.1 x hx;show id<x.1;omega,h⟩
    · rw[if_neg hlt]
      by_cases he:y.1=id
      · rw[if_pos he]
        exact List.pairwise_cons.2 ⟨fun x hx=>by have:=h1.1 x hx;show id<x.1;omega,h1.2⟩
      · rw[if_neg he]
        refine List.pairwise_cons.2 ⟨fun x hx=>?_,ih h1.2⟩;rcases(Zd0 id u r h1.2 x).1 hx with rfl|⟨_,hx⟩
        · show y.1<id;omega
        · exact h1.1 x hx
theorem Srt.rest {l:List (Int×Int)}(t:Int)(h:Srt l):Srt (ZaU t l):=List.Pairwise.filter _ h
theorem Srt.due {l:List (Int×Int)}(t:Int)(h:Srt l):(Zbf t l).Pairwise (· < ·):=by
 unfold Zbf;exact List.pairwise_map.2 (List.Pairwise.filter _ h)
theorem ZmD {l:List (Int×Int)}(t id:Int):id∈Zbf t l↔∃u,(id,u)∈l∧u≤t:=by
 simp[Zbf]
theorem ZjE {l:List (Int×Int)}(t:Int)(x:Int×Int):x∈ZaU t l↔x∈l∧t<x.2:=by
 simp[ZaU]
theorem Zdq (t:Int)(l:List (Int×Int)):(Zbf t l).length+(ZaU t l).length=l.length:=by
  unfold Zbf ZaU;rw[List.length_map];induction l with
  |nil=>rfl
  | cons x r ih=>
    rw[List.filter_cons,List.filter_cons];cases hd:decide (x.2≤t)<;>simp<;>omega
end Go.Proofs.YtfhkgohokbkgiaaGreatDoor
namespace Go.Proofs.YtfhkgohokbkgiaaGreatDoor
open Go.RowKit G Tryz
theorem Zjm : ∀ (f:Nat) (N:List Nr) (k:Int),SK N→∃g,Skel g∧(∀x∈N,x.thr=true→x.id≠k→g x=x)∧Zbk f N k=N.map g
  |0,N,k,_=>⟨fun x=>x,Skel.same,fun _ _ _ _=>rfl,by simp[Zbk]⟩
  | f + 1,N,k,hs=>by
    rw[Zbk];cases hg:gt N k with
    |none=>exact⟨fun x=>x,Skel.same,fun _ _ _ _=>rfl,by simp⟩
    | some x0=>
      obtain⟨hx0,hk0⟩:=ZaL hg;simp only;by_cases hr:x0.rdy=true
      · rw[if_pos hr];exact⟨fun x=>x,Skel.same,fun _ _ _ _=>rfl,by simp⟩
      · rw [if_neg hr]
        cases hp:gt N x0.par with
        |none=>exact⟨fun x=>if x.id==k then {x with rdy:=true}else x,Zbm (f:=fun x=>{x with rdy:=true}) skF,fun x hx _ h=>by simp[h],rfl⟩
        | some p=>
          obtain⟨hpN,hpi⟩:=ZaL hp;have hpt:=ZiL hs hx0 hpN hpi;simp only;obtain⟨g,h1,h2,h3⟩:=Zjm f (upN N k (wkF p.now)) x0.par (hs.upN (Zbg _));refine⟨fun x=>g (if x.id==k then wkF p.now x else x),(Zbm (Zbg _)).comp h1,fun x hx ht h=>?_,?_⟩
          · have e:(if x.id==k then wkF p.now x else x)=x:=by simp[h]
            show g (if x.id==k then wkF p.now x else x)=x;rw[e];refine h2 x (List.mem_map.2 ⟨x,hx,e⟩) ht fun e2=>?_
            have:=nd_eq hs.nd hx hpN (by rw[e2,hpi]);subst this;rw[hpt]at ht;cases ht
          · have e:Zbk f (upN N k fun x=>{x with rdy:=true,pass:=mxI x.pass p.now}) x0.par=_:=h3
            rw[e,upN,List.map_map];rfl
theorem Ze3 {N:List Nr}(hs:SK N){k:Int}{x:Nr}(hx:gt N k=some x)(ht:x.thr=true)(r:Bool):
    ∃g,Zag N k r=(0,N.map g)∧Skel g∧(∀z∈N,z.thr=true→z.id≠k→g z=z)∧∀z∈N,z.id=k→(g z).rdy=r:=by
  rw[Zag,hx];simp only[ht,if_true];obtain⟨hxN,hxk⟩:=ZaL hx;cases r with
  | false=>
    obtain⟨g,h1,h2,h3⟩:=Zdb 6 N k hs;refine⟨g,by simp[h3],h1,h2,fun z hz hk=>?_⟩;refine Zgj hs hx ?_ (g z) (by rw[h3];exact List.mem_map.2 ⟨z,hz,rfl⟩) (by rw[h1.id,hk]);rw[Zcy,List.filter_eq_nil_iff];intro a ha;have:=ZeF hs hxN ht a ha;rw[hxk]at this;simp[this]
  | true=>
    obtain⟨g,h1,h2,h3⟩:=Zjm 6 N k hs;obtain⟨g',w1,w2,w3⟩:=Zib 6 N k;refine⟨g,by simp[h3],h1,h2,fun z hz hk=>?_⟩;have e:g z=g' z:=List.map_inj_left.1 (h3.symm.trans w2) z hz;rw[e];exact w3 (by omega) z hz hs.nd hk
def Off (N:List Nr)(i:Int):Prop:=∃x∈N,x.id=i∧x.thr=true∧x.rdy=false
def Sub (N' N:List Nr):Prop:=∀z∈N',∃v∈N,v.id=z.id∧v.thr=z.thr
theorem Sub.refl (N:List Nr):Sub N N:=fun z h=>⟨z,h,rfl,rfl⟩
theorem Sub.trans {A B C:List Nr}(h:Sub A B)(k:Sub B C):Sub A C:=fun z hz=>by
 obtain⟨v,hv,e1,e2⟩:=h z hz;obtain⟨u,hu,e3,e4⟩:=k v hv;exact⟨u,hu,e3.trans e1,e4.trans e2⟩
theorem Sub.map {N:List Nr}{g:Nr→Nr}(hg:Skel g):Sub (N.map g) N:=fun z hz=>by
 obtain⟨v,hv,rfl⟩:=List.mem_map.1 hz;exact⟨v,hv,(hg.id v).symm,(hg.thr v).symm⟩
theorem Off.get {N:List Nr}(hs:SK N){i:Int}(h:Off N i):∃x,gt N i=some x∧x.thr=true∧x.rdy=false:=by
 obtain⟨x,hx,rfl,h1,h2⟩:=h;exact⟨x,ZbY hs.nd hx,h1,h2⟩
theorem Zdc {N:List Nr}(k:Int)(r:Bool):Sub (Zag N k r).2 N:=by
 obtain⟨g,hg,e⟩:=Zdo N k r;rw[e];exact Sub.map hg
theorem Off.ready {N:List Nr}(hs:SK N){i k:Int}{r:Bool}(h:Off N i)(hne:i≠k):Off (Zag N k r).2 i:=by
  cases hg:gt N k with
  |none=>rw[Zag,hg];exact h
  | some x=>
    cases ht:x.thr with
    |false=>rw[Zag,hg];simp only[ht];exact h
    | true=>
      obtain⟨g,e,hsk,h1,_⟩:=Ze3 hs hg ht r;obtain⟨z,hz,rfl,h2,h3⟩:=h;rw[e];refine⟨z,List.mem_map.2 ⟨z,hz,h1 z hz h2 hne⟩,rfl,h2,h3⟩
theorem Off.self {N:List Nr}(hs:SK N){k:Int}{x:Nr}(hx:gt N k=some x)(ht:x.thr=true):Off (Zag N k false).2 k:=by
 obtain⟨g,e,hsk,_,h1⟩:=Ze3 hs hx ht false;obtain⟨hxN,hxk⟩:=ZaL hx;rw[e];exact⟨g x,List.mem_map.2 ⟨x,hxN,rfl⟩,by rw[hsk.id,hxk],by rw[hsk.thr,ht],h1 x hxN hxk⟩
theorem add_cases (N :List Nr) (par id wt:Int) (thr:Bool):(∃e,e≠0∧Zbs N par id wt thr=(e,N))∨∃p,gt N par=some p∧gt N id=none∧Zbs N par id wt thr=(0,N++[{id,par,wt,pass:=p.now,thr,rdy:=false,now:=0}]):=by
  unfold Zbs;split
  · exact .inl ⟨10,by decide,rfl⟩
  · split
    · exact .inl ⟨13,by decide,rfl⟩
    · rename_i p hp
      split
      · exact .inl ⟨13,by decide,rfl⟩
      · split
        · exact .inl ⟨20,by decide,rfl⟩
        · rename_i hn
          split
          · exact .inl ⟨12,by decide,rfl⟩
          · split
            · exact .inl ⟨14,by decide,rfl⟩
            · exact .inr ⟨p,hp,by cases hc:gt N id with|none=>rfl|some y=>exact absurd (by rw[hc];rfl) hn,rfl⟩
theorem Off.add {N:List Nr}{i:Int}(h:Off N i)(par id wt:Int)(thr:Bool):Off (Zbs N par id wt thr).2 i:=by
 rcases add_cases N par id wt thr with⟨e,_,h1⟩|⟨p,_,_,h1⟩
 ·rw[h1];exact h
 ·rw[h1]
  obtain⟨x,hx,r⟩:=h;exact⟨x,List.mem_append_left _ hx,r⟩
theorem ZkD {N:List Nr}(k:Int):Sub (Zap N k).2 N:=by
 unfold Zap;split
 ·exact Sub.refl N
 ·split
  ·exact Sub.refl N
  ·obtain⟨g,hg1,_,hg3⟩:=ZbB 6 N k
   rw[hg3];exact fun z hz=>Sub.map hg1 z (List.mem_filter.1 hz).1
theorem Off.remove {N:List Nr}(hs:SK N){i:Int}(h:Off N i){k:Int}(hne:i≠k):Off (Zap N k).2 i:=by
 unfold Zap;split
 ·exact h
 ·split
  ·exact h
  ·obtain⟨g,h1,h2,h3⟩:=Zdb 6 N k hs
   obtain⟨x,hx,rfl,h4,h5⟩:=h;rw[h3];exact⟨x,List.mem_filter.2 ⟨List.mem_map.2 ⟨x,hx,h2 x hx h4 hne⟩,by simpa using hne⟩,rfl,h4,h5⟩
theorem Zka {N:List Nr}(k W:Int):Sub (Zaq N k W).2 N:=(ZdB k W).2
theorem Off.weight {N :List Nr} {i:Int} (h:Off N i) (k W:Int):Off (Zaq N k W).2 i:=by
  obtain⟨x,hx,rfl,h1,h2⟩:=h;rw[Zaq];split
  · exact⟨x,hx,rfl,h1,h2⟩
  · split
    · exact⟨x,hx,rfl,h1,h2⟩
    · split
      · exact⟨x,hx,rfl,h1,h2⟩
      · split
        · exact⟨x,hx,rfl,h1,h2⟩
        · by_cases c:x.id=k
          · exact⟨_,Za0.2 ⟨x,hx,.inl ⟨c,rfl⟩⟩,rfl,h1,h2⟩
          · exact⟨_,Za0.2 ⟨x,hx,.inr ⟨c,rfl⟩⟩,rfl,h1,h2⟩
theorem Zl1 {N:List Nr}(hw:WFN N):∃g,Still g∧(Zcd N).2=N.map g:=by
  cases hg:gt N 0 with
  |none=>exact⟨fun x=>x,Still.same,by rw[Zcd,hg];simp⟩
  | some r=>
    cases hr:r.rdy with
    |true=>obtain⟨y,id,g,h1,h2,_⟩:=Zgg hw hg hr;exact⟨g,h2,by rw[h1]⟩
    |false=>exact⟨fun x=>x,Still.same,by rw[Zcd,hg];simp[hr]⟩
theorem Off.still {N:List Nr}{i:Int}(h:Off N i){g:Nr→Nr}(hg:Still g):Off (N.map g) i:=by
 obtain⟨x,hx,rfl,h1,h2⟩:=h;exact⟨g x,List.mem_map.2 ⟨x,hx,rfl⟩,hg.sk.id x,(hg.sk.thr x).trans h1,(hg.rdy x).trans h2⟩
theorem Zek (id :Int):∀(l:List (Int×Int)),Srt l→∀x,x∈Zbi id l↔x.1≠id∧x∈l
  | [],_,x=>by simp[Zbi]
  | y ::r,h,x=>by
    have h1:=List.pairwise_cons.1 h;unfold Zbi;by_cases hlt:id<y.1
    · rw[if_pos hlt]
      refine⟨fun hx=>⟨?_,hx⟩,fun hx=>hx.2⟩;rcases List.mem_cons.1 hx with rfl|hx
      · omega
      · have:=h1.1 x hx;omega
    · rw [if_neg hlt]
      by_cases he:y.1=id
      · rw[if_pos he]
        refine⟨fun hx=>⟨by have:=h1.1 x hx;omega,by simp[hx]⟩,fun⟨h2,h3⟩=>?_⟩;rcases List.mem_cons.1 h3 with rfl|h3
        · exact absurd he h2
        · exact h3
      · rw[if_neg he,List.mem_cons,Zek id r h1.2 x,List.mem_cons]
        constructor
        · rintro(rfl|⟨h2,h3⟩)
          · exact⟨he,.inl rfl⟩
          · exact⟨h2,.inr h3⟩
        · rintro⟨h2,rfl|h3⟩
          · exact .inl rfl
          · exact .inr ⟨h2,h3⟩
theorem ZfH (id:Int):∀(l:List (Int×Int)),(Zbi id l).Sublist l
  | []=>List.Sublist.refl _
  | y ::r=>by
    unfold Zbi;split
    · exact List.Sublist.refl _
    · split
      · exact List.sublist_cons_self _ _
      · exact(ZfH id r).cons_cons _
theorem Srt.drop {l:List (Int×Int)}(id:Int)(h:Srt l):Srt (Zbi id l):=List.Pairwise.sublist (ZfH id l) h
abbrev Ob :=Int×List Int
def Zff (j:Int):Bool:=decide (j≥0)&&decide (j<4)
def Zc3 (O:List Ob)(id:Int):Bool:=O.any fun o=>o.2.contains id
def Zcq (O:List Ob)(j:Int):Ob:=O.getD j.toNat (0,[])
def Zaj (O:List Ob)(id j:Int):(Bool×Int)×List Ob:=
 if Zff j=false then((false,10),O)else if Zc3 O id then((false,20),O)
 else if(Zcq O j).1>0 then((true,0),O.set j.toNat ((Zcq O j).1-1,(Zcq O j).2))else((false,0),O.set j.toNat ((Zcq O j).1,(Zcq O j).2++[id]))
def Zay (O :List Ob) (j:Int):(Int×Bool×Int)×List Ob:=
  if Zff j=false then((0,false,10),O)else match(Zcq O j).2 with
    | []=>((0,false,0),O.set j.toNat (mnI ((Zcq O j).1+1) 255,[]))
    |x::r=>((x,true,0),O.set j.toNat ((Zcq O j).1,r))
def ZcP (O:List Ob)(id:Int):List Ob:=O.map fun o=>(o.1,o.2.filter fun n=> !(n==id))
structure KS where
 N:List Nr
 tm:List (Int×Int)
 ob:List Ob
 mt:Int
 mg:Int
 nx:Int
def isT (N:List Nr)(k:Int):Bool:=(gt N k).isSome&& ((gt N k).getD ZbE).thr
def isR (N:List Nr)(k:Int):Bool:=(gt N k).isSome&& ((gt N k).getD ZbE).thr&& ((gt N k).getD ZbE).rdy
def kcnt (N:List Nr)(thr:Bool):Int:=((N.filter fun x=>x.thr==thr&& !(x.id==0)).length:Int)
def ZaB (s:KS)(par wt most:Int)(thr:Bool):(Int×Int)×KS:=
 if isW wt=false then((0,10),s)else if(gt s.N par).isNone∨((gt s.N par).getD ZbE).thr=true then((0,13),s)else if kcnt s.N thr≥most then((0,14),s)
 else if(Zbs s.N par s.nx wt thr).1≠0 then((0,(Zbs s.N par s.nx wt thr).1),s)else((s.nx,0),{s with N:=(Zbs s.N par s.nx wt thr).2,nx:=s.nx+1})
def Zau (s:KS)(par wt:Int):(Int×Int)×KS:=
 if(ZaB s par wt s.mt true).1.2≠0 then((0,(ZaB s par wt s.mt true).1.2),(ZaB s par wt s.mt true).2)
 else(((ZaB s par wt s.mt true).1.1,(Zag (ZaB s par wt s.mt true).2.N (ZaB s par wt s.mt true).1.1 true).1),{(ZaB s par wt s.mt true).2 with N:=(Zag (ZaB s par wt s.mt true).2.N (ZaB s par wt s.mt true).1.1 true).2})
def ZaC (s:KS)(par wt:Int):(Int×Int)×KS:=ZaB s par wt s.mg false
def Zbn (s:KS)(id:Int):Int×KS:=if isT s.N id=false then(13,s)else((Zap s.N id).1,{s with N:=(Zap s.N id).2,tm:=Zbi id s.tm,ob:=ZcP s.ob id})
def ZaY (s:KS)(id u:Int):Int×KS:=if isR s.N id=false then(13,s)else((Zag s.N id false).1,{s with N:=(Zag s.N id false).2,tm:=Zbq id u s.tm})
def ZaJ (s:KS)(id j:Int):(Bool×Int)×KS:=
 if isR s.N id=false then((false,13),s)else if(Zaj s.ob id j).1.2≠0∨(Zaj s.ob id j).1.1=true then((Zaj s.ob id j).1,{s with ob:=(Zaj s.ob id j).2})
 else((false,(Zag s.N id false).1),{s with N:=(Zag s.N id false).2,ob:=(Zaj s.ob id j).2})
def ZaA (s:KS)(j:Int):Int×KS:=
 if(Zay s.ob j).1.2.2≠0∨(Zay s.ob j).1.2.1=false then((Zay s.ob j).1.2.2,{s with ob:=(Zay s.ob j).2})
 else((Zag s.N (Zay s.ob j).1.1 true).1,{s with N:=(Zag s.N (Zay s.ob j).1.1 true).2,ob:=(Zay s.ob j).2})
def Za9 (s:KS)(id W:Int):Int×KS:=((Zaq s.N id W).1,{s with N:=(Zaq s.N id W).2})
def ZcE (N:List Nr)(l:List Int):List Nr:=l.foldl (fun N i=>(Zag N i true).2) N
def ZaZ (s:KS)(t:Int):List Int×KS:=(Zbf t s.tm,{s with N:=ZcE s.N (Zbf t s.tm),tm:=ZaU t s.tm})
def ZaP (s:KS):(Int×Bool)×KS:=((Zcd s.N).1,{s with N:=(Zcd s.N).2})
structure KOk (s:KS):Prop where
 wf:WFN s.N
 ids:∀x∈s.N,x.id<s.nx
 nx:1≤s.nx
 mt:1≤s.mt∧s.mt≤8
 mg:0≤s.mg∧s.mg≤4
 ct:kcnt s.N true≤s.mt∧kcnt s.N false≤s.mg
 tm:Srt s.tm
 tmo:∀p∈s.tm,Off s.N p.1
 ob:s.ob.length=4
 obc:∀o∈s.ob,0≤o.1∧o.1≤255
 obo:∀o∈s.ob,∀i∈o.2,Off s.N i
 obn:∀o∈s.ob,o.2.Nodup
 obd:∀(i j:Nat) (a b:Ob),i≠j→s.ob[i]? =some a→s.ob[j]? =some b→∀x∈a.2,x ∉ b.2
 dis:∀p∈s.tm,∀o∈s.ob,p.1 ∉ o.2
theorem Zfd {N:List Nr}{k:Int}:isT N k=true↔∃x,gt N k=some x∧x.thr=true:=by
 unfold isT;cases gt N k with
 |none=>simp
 |some x=>simp
theorem Zgu {N:List Nr}{k:Int}:isR N k=true↔∃x,gt N k=some x∧x.thr=true∧x.rdy=true:=by
 unfold isR;cases gt N k with
 |none=>simp
 |some x=>simp
theorem Off.ne {N:List Nr}(hs:SK N){i k:Int}(h:Off N i)(hk:isR N k=true):i≠k:=by
 rintro rfl;obtain⟨x,h1,_,h2⟩:=h.get hs;obtain⟨y,h3,_,h4⟩:=Zgu.1 hk;rw[h1]at h3;cases h3;rw[h2]at h4;cases h4
theorem ids_sub {N' N:List Nr}{n:Int}(h:Sub N' N)(hi:∀x∈N,x.id<n):∀x∈N',x.id<n:=fun x hx=>by
 obtain⟨v,hv,e,_⟩:=h x hx;have:=hi v hv;omega
def CtLe (N' N:List Nr):Prop:=∀b,kcnt N' b≤kcnt N b
theorem CtLe.le {N' N:List Nr}(h:CtLe N' N){a b:Int}(k:kcnt N true≤a∧kcnt N false≤b):kcnt N' true≤a∧kcnt N' false≤b:=⟨Int.le_trans (h true) k.1,Int.le_trans (h false) k.2⟩
theorem Zd5 {g:Nr→Nr}(hg:Skel g)(N:List Nr)(b:Bool):kcnt (N.map g) b=kcnt N b:=by
 unfold kcnt;rw[List.filter_map,List.length_map];congr 2;exact List.filter_congr fun x _=>by simp[Function.comp,hg.thr,hg.id]
theorem CtLe.map {g:Nr→Nr}(hg:Skel g)(N:List Nr):CtLe (N.map g) N:=fun b=>Int.le_of_eq (Zd5 hg N b)
theorem Zgs (N:List Nr)(n:Nr)(hn:n.id≠0)(b:Bool):kcnt (N++[n]) b=kcnt N b+if n.thr=b then 1 else 0:=by
 unfold kcnt;rw[List.filter_append,List.length_append];have h0:(n.id==0)=false:=by simpa using hn
 by_cases c:n.thr=b
 ·have:(n.thr==b)=true:=by simpa using c
  simp[this,h0,c]
 ·have:(n.thr==b)=false:=by simpa using c
  simp[this,c]
theorem ZdX {N:List Nr}(k:Int)(r:Bool):CtLe (Zag N k r).2 N:=by
 obtain⟨g,hg,e⟩:=Zdo N k r;rw[e];exact CtLe.map hg N
theorem Zme {N:List Nr}(k:Int):CtLe (Zap N k).2 N:=by
 unfold Zap;split
 ·exact fun b=>Int.le_refl _
 ·split
  ·exact fun b=>Int.le_refl _
  ·obtain⟨g,hg1,_,hg3⟩:=ZbB 6 N k
   rw[hg3];intro b;rw[←Zd5 hg1 N b];unfold kcnt;exact Int.ofNat_le.2 ((List.filter_sublist.filter _).length_le)
theorem Zlw {N :List Nr} (k W:Int):CtLe (Zaq N k W).2 N:=by
  rw[Zaq];split
  · exact fun b=>Int.le_refl _
  · split
    · exact fun b=>Int.le_refl _
    · split
      · exact fun b=>Int.le_refl _
      · split
        · exact fun b=>Int.le_refl _
        · rename_i x _ _ p _
          exact CtLe.map (Zbm (k:=k) (f:=fun x=>{x with pass:=scaleN x.pass p.now x.wt W,wt:=W}) ⟨fun _=>rfl,fun _=>rfl,fun _=>rfl⟩) N
theorem Zjn :∀(l:List Int) (N:List Nr),CtLe (ZcE N l) N
 | [],N=>fun b=>Int.le_refl _
 |k::l,N=>fun b=>Int.le_trans (Zjn l _ b) (ZdX k true b)
theorem Zoy (N :List Nr) (hs:SK N):(N.length:Int)=1+kcnt N true+kcnt N false:=by
  have h1:N.length=(N.filter fun x=>x.id==0).length+(N.filter fun x=> !(x.id==0)).length:=by
    rw[←List.countP_eq_length_filter,←List.countP_eq_length_filter];have h0:=List.length_eq_countP_add_countP (fun x:Nr=>x.id==0) (l:=N);rw[h0];congr 2;funext a;cases c:(a.id==0)<;>simp_all
  have h2:(N.filter fun x=> !(x.id==0)).length=(N.filter fun x=>x.thr==true&& !(x.id==0)).length+(N.filter fun x=>x.thr==false&& !(x.id==0)).length:=by
    have h3:=List.length_eq_countP_add_countP (fun x:Nr=>x.thr==true) (l:=N.filter fun x=> !(x.id==0));rw[h3,List.countP_eq_length_filter,List.countP_eq_length_filter,List.filter_filter,List.filter_filter];congr 2;exact List.filter_congr fun x _=>by cases x.thr<;>simp
  have h4:(N.filter fun x=>x.id==0).length=1:=by
    obtain⟨r,hr,hr0⟩:=hs.root;have hn:((N.filter fun x=>x.id==0).map (·.id)).Nodup:=(List.filter_sublist.map _).nodup hs.nd;cases hl:N.filter fun x=>x.id==0 with
    |nil=>exact absurd (List.mem_filter (p:=fun x:Nr=>x.id==0).2 ⟨hr,by simpa using hr0⟩) (by rw[hl];simp)
    | cons a t=>
      cases t with
      |nil=>rfl
      | cons b t=>
        exfalso
        have ha : a.id = 0 := by have:a∈N.filter fun x=>x.id==0:=by rw[hl];simp
                                 simpa using(List.mem_filter.1 this).2
        have hb : b.id = 0 := by have:b∈N.filter fun x=>x.id==0:=by rw[hl];simp
                                 simpa using(List.mem_filter.1 this).2
        rw[hl]at hn;simp[ha,hb]at hn
  unfold kcnt;omega
theorem KOk.node {s:KS}(h:KOk s){N':List Nr}{n:Int}(hw:WFN N')(hn:s.nx≤n)(hi:∀x∈N',x.id<n)(hc:kcnt N' true≤s.mt∧kcnt N' false≤s.mg)(ho:∀i,Off s.N i→Off N' i):KOk {s with N:=N',nx:=n}:=
 ⟨hw,hi,by have:=h.nx;show 1≤n;omega,h.mt,h.mg,hc,h.tm,fun p hp=>ho _ (h.tmo p hp),h.ob,h.obc,fun o hx i hi=>ho _ (h.obo o hx i hi),h.obn,h.obd,h.dis⟩
theorem ZeM {s : KS} (h:KOk s) (par wt most:Int) (thr:Bool) (hm:most=if thr then s.mt else s.mg):KOk (ZaB s par wt most thr).2∧∀i,Off s.N i→Off (ZaB s par wt most thr).2.N i∧i<s.nx:=by
  have hlt:∀i,Off s.N i→i<s.nx:=fun i hi=>by obtain⟨x,hx,e,_⟩:=hi;rw[←e];exact h.ids x hx
  have same:KOk s∧∀i,Off s.N i→Off s.N i∧i<s.nx:=⟨h,fun i hi=>⟨hi,hlt i hi⟩⟩
  unfold ZaB;split
  · exact same
  · split
    · exact same
    · split
      · exact same
      · rename_i hct
        split
        · exact same
        · rename_i hz
          rcases add_cases s.N par s.nx wt thr with⟨e,he,h1⟩|⟨p,_,_,h1⟩
          · exact absurd (by rw[h1];exact he) hz
          · have h1':(Zbs s.N par s.nx wt thr).2=_:=congrArg Prod.snd h1
            refine⟨h.node (Zf2 h.wf _ _ _ _) (by omega) ?_ ?_ (fun i hi=>hi.add _ _ _ _),fun i hi=>⟨hi.add _ _ _ _,hlt i hi⟩⟩
            · rw[h1']
              intro x hx;rcases List.mem_append.1 hx with hx|hx
              · have:=h.ids x hx;omega
              · simp at hx;subst hx;show s.nx<s.nx+1;omega
            · have hnx:=h.nx
              have hc1:=h.ct.1;have hc2:=h.ct.2;rw[h1',Zgs _ _ (by show s.nx≠0;omega),Zgs _ _ (by show s.nx≠0;omega)];cases thr with
              |true=>simp at hm ⊢;omega
              |false=>simp at hm ⊢;omega
theorem ZjM {s :KS} {par wt most:Int} {thr:Bool} (h:(ZaB s par wt most thr).1.2=0):(ZaB s par wt most thr).1.1=s.nx∧(ZaB s par wt most thr).2={s with N:=(Zbs s.N par s.nx wt thr).2,nx:=s.nx+1}∧(Zbs s.N par s.nx wt thr).1=0∧isW wt=true∧kcnt s.N thr<most:=by
  unfold ZaB at h ⊢;split at h
  · cases h
  · split at h
    · cases h
    · split at h
      · cases h
      · split at h
        · rename_i c;exact absurd h c
        · rename_i c1 c2 c3 c4
          rw[if_neg c1,if_neg c2,if_neg c3,if_neg c4];exact⟨rfl,rfl,by simpa using c4,by simpa using c1,by omega⟩
theorem Zfb {s:KS}(h:KOk s)(par wt:Int):KOk (Zau s par wt).2:=by
 obtain⟨h1,h2⟩:=ZeM h par wt s.mt true rfl;unfold Zau;split
 ·exact h1
 ·rename_i c
  obtain⟨e1,e2,_⟩:=ZjM (by simpa using c:(ZaB s par wt s.mt true).1.2=0);rw[e1];rw[e2]at h1 ⊢;refine⟨Zcv h1.wf _ _,ids_sub (Zdc _ _) h1.ids,h1.nx,h1.mt,h1.mg,(ZdX _ _).le h1.ct,h1.tm,fun p hp=>?_,h1.ob,h1.obc,fun o ho i hi=>?_,h1.obn,h1.obd,h1.dis⟩
  ·have h3:=h2 _ (h.tmo p hp)
   exact(h1.tmo p hp).ready h1.wf.sk (by have:=h3.2;omega)
  ·have h3:=h2 _ (h.obo o ho i hi)
   exact(h1.obo o ho i hi).ready h1.wf.sk (by have:=h3.2;omega)
theorem Zhv {s:KS}(h:KOk s)(par wt:Int):KOk (ZaC s par wt).2:=(ZeM h par wt s.mg false rfl).1
theorem Zd1 {O:List Ob}{id:Int}{o:Ob}:o∈ZcP O id→∃a∈O,o=(a.1,a.2.filter fun n=> !(n==id)):=fun h=>by
 obtain⟨a,ha,rfl⟩:=List.mem_map.1 h;exact⟨a,ha,rfl⟩
theorem ZjK {s:KS}(h:KOk s)(id:Int):KOk (Zbn s id).2:=by
 unfold Zbn;split
 ·exact h
 ·refine⟨Zg8 h.wf id,ids_sub (ZkD id) h.ids,h.nx,h.mt,h.mg,(Zme _).le h.ct,h.tm.drop id,fun p hp=>?_,by show(ZcP s.ob id).length=4;rw[ZcP,List.length_map];exact h.ob,fun o ho=>?_,fun o ho i hi=>?_,fun o ho=>?_,fun i j a b hij ha hb x hxa hxb=>?_,fun p hp o ho hx=>?_⟩
  ·obtain⟨h1,h2⟩:=(Zek id s.tm h.tm p).1 hp
   exact(h.tmo p h2).remove h.wf.sk h1
  ·obtain⟨a,ha,rfl⟩:=Zd1 ho
   exact h.obc a ha
  ·obtain⟨a,ha,rfl⟩:=Zd1 ho
   obtain⟨h1,h2⟩:=List.mem_filter.1 hi;exact(h.obo a ha i h1).remove h.wf.sk (by simpa using h2)
  ·obtain⟨a,ha,rfl⟩:=Zd1 ho
   exact(h.obn a ha).filter _
  ·simp only[ZcP,List.getElem?_map,Option.map_eq_some_iff]at ha hb
   obtain⟨a',ha',rfl⟩:=ha;obtain⟨b',hb',rfl⟩:=hb;exact h.obd i j a' b' hij ha' hb' x (List.mem_filter.1 hxa).1 (List.mem_filter.1 hxb).1
  ·obtain⟨a,ha,rfl⟩:=Zd1 ho
   exact h.dis p ((Zek id s.tm h.tm p).1 hp).2 a ha (List.mem_filter.1 hx).1
theorem Zht {s:KS}(h:KOk s)(id u:Int):KOk (ZaY s id u).2:=by
 unfold ZaY;split
 ·exact h
 ·rename_i c
  have hr:isR s.N id=true:=by simpa using c
  obtain⟨x,hx,ht,_⟩:=Zgu.1 hr;refine⟨Zcv h.wf _ _,ids_sub (Zdc _ _) h.ids,h.nx,h.mt,h.mg,(ZdX _ _).le h.ct,h.tm.set id u,fun p hp=>?_,h.ob,h.obc,fun o ho i hi=>?_,h.obn,h.obd,fun p hp o ho hx=>?_⟩
  ·rcases(Zd0 id u s.tm h.tm p).1 hp with rfl|⟨h1,h2⟩
   ·exact Off.self h.wf.sk hx ht
   ·exact(h.tmo p h2).ready h.wf.sk h1
  ·have:=h.obo o ho i hi
   exact this.ready h.wf.sk (this.ne h.wf.sk hr)
  ·rcases(Zd0 id u s.tm h.tm p).1 hp with rfl|⟨h1,h2⟩
   ·exact(h.obo o ho id hx).ne h.wf.sk hr rfl
   ·exact h.dis p h2 o ho hx
theorem ZdY {O:List Ob}(hl:O.length=4){j:Int}(hj:Zff j=true):O[j.toNat]? =some (Zcq O j)∧(Zcq O j)∈O∧j.toNat<O.length:=by
 simp[Zff]at hj;have h:j.toNat<O.length:=by omega
 have e:O[j.toNat]? =some (Zcq O j):=by rw[Zcq,List.getD_eq_getElem?_getD,gEe h];rfl
 exact⟨e,gMm e,h⟩
theorem mem_set {O:List Ob}{j:Nat}{o a:Ob}(h:o∈O.set j a):o=a∨o∈O:=by
 rcases List.mem_or_eq_of_mem_set h with h|h
 ·exact .inr h
 ·exact .inl h
theorem Zgo {O :List Ob} (hd:∀(i j:Nat) (a b:Ob),i≠j→O[i]? =some a→O[j]? =some b→∀x∈a.2,x ∉ b.2) {j:Nat} {o:Ob} (hn:∀(i:Nat) (a:Ob),i≠j→O[i]? =some a→∀x∈a.2,x ∉ o.2):
    ∀(i k:Nat) (a b:Ob),i≠k→(O.set j o)[i]? =some a→(O.set j o)[k]? =some b→∀x∈a.2,x ∉ b.2:=by
  intro i k a b hik ha hb x hxa hxb;rw[List.getElem?_set]at ha hb;by_cases ci:j=i
  · by_cases ck:j=k
    · exact hik (ci.symm.trans ck)
    · rw[if_pos ci]at ha
      rw[if_neg ck]at hb;split at ha
      · cases ha
        exact hn k b (fun e=>ck e.symm) hb x hxb hxa
      · cases ha
  · rw [if_neg ci]at ha
    by_cases ck:j=k
    · rw[if_pos ck]at hb
      split at hb
      · cases hb
        exact hn i a (fun e=>ci e.symm) ha x hxa hxb
      · cases hb
    · rw[if_neg ck]at hb
      exact hd i k a b hik ha hb x hxa hxb
theorem obHas_no {O:List Ob}{id:Int}(h:¬Zc3 O id=true):∀o∈O,id ∉ o.2:=fun o ho hi=>h (by
 rw[Zc3,List.any_eq_true];exact⟨o,ho,by simpa using hi⟩)
theorem ZjI {s : KS} (h:KOk s) (id j:Int):KOk (ZaJ s id j).2:=by
  have put:∀o:Ob,Zff j=true→0≤o.1→o.1≤255→o.2=(Zcq s.ob j).2→KOk {s with ob:=s.ob.set j.toNat o}:=fun o hj h0 h1 he=>by
    obtain⟨a1,a2,a3⟩:=ZdY h.ob hj;refine⟨h.wf,h.ids,h.nx,h.mt,h.mg,h.ct,h.tm,h.tmo,by simp[h.ob],fun p hp=>?_,fun p hp i hi=>?_,fun p hp=>?_,Zgo h.obd fun i a hi ha x hx hxo=>?_,fun p hp q hq=>?_⟩
    · rcases mem_set hp with rfl|hp
      · exact⟨h0,h1⟩
      · exact h.obc p hp
    · rcases mem_set hp with rfl|hp
      · exact h.obo _ a2 i (he▸hi)
      · exact h.obo p hp i hi
    · rcases mem_set hp with rfl|hp
      · rw[he];exact h.obn _ a2
      · exact h.obn p hp
    · exact h.obd i _ a _ hi ha a1 x hx (he▸hxo)
    · rcases mem_set hq with rfl|hq
      · rw[he];exact h.dis p hp _ a2
      · exact h.dis p hp q hq
  unfold ZaJ;split
  · exact h
  · rename_i c
    have hr:isR s.N id=true:=by simpa using c
    obtain⟨x,hx,ht,_⟩:=Zgu.1 hr;unfold Zaj;by_cases hj:Zff j=false
    · rw[if_pos hj];simp;exact h
    · rw [if_neg hj]
      have hj:Zff j=true:=by simpa using hj
      obtain⟨a1,a2,a3⟩:=ZdY h.ob hj;by_cases hh:Zc3 s.ob id=true
      · rw[if_pos hh];simp;exact h
      · rw [if_neg hh]
        by_cases hc:(Zcq s.ob j).1>0
        · rw[if_pos hc];simp only[or_true,if_true]
          exact put _ hj (by have:=h.obc _ a2;simp only;omega) (by have:=h.obc _ a2;simp only;omega) rfl
        · rw [if_neg hc];simp
          have hno:=obHas_no hh;refine⟨Zcv h.wf _ _,ids_sub (Zdc _ _) h.ids,h.nx,h.mt,h.mg,(ZdX _ _).le h.ct,h.tm,fun p hp=>?_,by simp[h.ob],fun p hp=>?_,fun p hp i hi=>?_,fun p hp=>?_,Zgo h.obd fun i a hi ha y hy hxo=>?_,fun p hp q hq=>?_⟩
          · have:=h.tmo p hp
            exact this.ready h.wf.sk (this.ne h.wf.sk hr)
          · rcases mem_set hp with rfl|hp
            · show 0≤(Zcq s.ob j).1∧(Zcq s.ob j).1≤255;exact h.obc _ a2
            · exact h.obc p hp
          · rcases mem_set hp with rfl|hp
            · rcases List.mem_append.1 hi with hi|hi
              · have:=h.obo _ a2 i hi
                exact this.ready h.wf.sk (this.ne h.wf.sk hr)
              · simp at hi;subst hi;exact Off.self h.wf.sk hx ht
            · have:=h.obo p hp i hi
              exact this.ready h.wf.sk (this.ne h.wf.sk hr)
          · rcases mem_set hp with rfl|hp
            · refine List.nodup_append.2 ⟨h.obn _ a2,by simp,fun a ha b hb=>?_⟩
              simp at hb;subst hb;rintro rfl;exact hno _ a2 ha
            · exact h.obn p hp
          · rcases List.mem_append.1 hxo with hxo|hxo
            · exact h.obd i _ a _ hi ha a1 y hy hxo
            · simp at hxo;subst hxo;exact hno _ (gMm ha) hy
          · rcases mem_set hq with rfl|hq
            · intro hm
              rcases List.mem_append.1 hm with hm|hm
              · exact h.dis p hp _ a2 hm
              · simp at hm;exact(h.tmo p hp).ne h.wf.sk hr hm
            · exact h.dis p hp q hq
theorem Zpk (a:Int):mnI a 255≤255∧(0≤a→0≤mnI a 255):=by
 unfold mnI;split<;>constructor<;>omega
theorem ZfV {s :KS} (h:KOk s) (j:Int):KOk (ZaA s j).2:=by
  unfold ZaA Zay;by_cases hj:Zff j=false
  · rw[if_pos hj];simp;exact h
  · rw [if_neg hj]
    have hj:Zff j=true:=by simpa using hj
    obtain⟨a1,a2,a3⟩:=ZdY h.ob hj;cases hl:(Zcq s.ob j).2 with
    | nil=>
      simp;refine⟨h.wf,h.ids,h.nx,h.mt,h.mg,h.ct,h.tm,h.tmo,by simp[h.ob],fun p hp=>?_,fun p hp i hi=>?_,fun p hp=>?_,Zgo h.obd fun i a hi ha x hx hxo=>by simp at hxo,fun p hp q hq=>?_⟩
      · rcases mem_set hp with rfl|hp
        · exact⟨(Zpk _).2 (by have:=h.obc _ a2;omega),(Zpk _).1⟩
        · exact h.obc p hp
      · rcases mem_set hp with rfl|hp
        · simp at hi
        · exact h.obo p hp i hi
      · rcases mem_set hp with rfl|hp
        · simp
        · exact h.obn p hp
      · rcases mem_set hq with rfl|hq
        · simp
        · exact h.dis p hp q hq
    | cons x r=>
      simp;have hxr:=h.obn _ a2;rw[hl]at hxr;obtain⟨hx,hr⟩:=List.nodup_cons.1 hxr;have hm:∀y∈r,y∈(Zcq s.ob j).2:=fun y hy=>by rw[hl];simp[hy]
      have hxm:x∈(Zcq s.ob j).2:=by rw[hl];simp
      refine⟨Zcv h.wf _ _,ids_sub (Zdc _ _) h.ids,h.nx,h.mt,h.mg,(ZdX _ _).le h.ct,h.tm,fun p hp=>?_,by simp[h.ob],fun p hp=>?_,fun p hp i hi=>?_,fun p hp=>?_,Zgo h.obd fun i a hi ha y hy hyo=>?_,fun p hp q hq=>?_⟩
      · exact(h.tmo p hp).ready h.wf.sk (fun e=>h.dis p hp _ a2 (e▸hxm))
      · rcases mem_set hp with rfl|hp
        · show 0≤(Zcq s.ob j).1∧(Zcq s.ob j).1≤255;exact h.obc _ a2
        · exact h.obc p hp
      · obtain⟨m,hmm,he⟩:=List.mem_iff_getElem.1 hp
        have hg:(s.ob.set j.toNat ((Zcq s.ob j).1,r))[m]? =some p:=by rw[←he];exact gEe hmm
        rw[List.getElem?_set]at hg;by_cases c:j.toNat=m
        · rw[if_pos c,if_pos a3]at hg
          cases hg;exact(h.obo _ a2 i (hm i hi)).ready h.wf.sk (by rintro rfl;exact hx hi)
        · rw[if_neg c]at hg
          exact(h.obo p (gMm hg) i hi).ready h.wf.sk (by rintro rfl;exact h.obd m _ p _ (fun e=>c e.symm) hg a1 i hi hxm)
      · rcases mem_set hp with rfl|hp
        · exact hr
        · exact h.obn p hp
      · exact h.obd i _ a _ hi ha a1 y hy (hm y hyo)
      · rcases mem_set hq with rfl|hq
        · exact fun hmm=>h.dis p hp _ a2 (hm _ hmm)
        · exact h.dis p hp q hq
theorem ZfU {s:KS}(h:KOk s)(id W:Int):KOk (Za9 s id W).2:=h.node (ZeO h.wf id W) (Int.le_refl _) (ids_sub (Zka id W) h.ids) ((Zlw _ _).le h.ct) fun i hi=>hi.weight id W
theorem ZmQ {s:KS}(h:KOk s):KOk (ZaP s).2:=by
 obtain⟨g,hg,e⟩:=Zl1 h.wf;exact h.node (Zpd h.wf) (Int.le_refl _) (by rw[e];exact ids_sub (Sub.map hg.sk) h.ids) (by rw[e];exact(CtLe.map hg.sk s.N).le h.ct) fun i hi=>by rw[e];exact hi.still hg
theorem ZeE :∀(l:List Int) {N:List Nr},WFN N→WFN (ZcE N l)∧Sub (ZcE N l) N∧∀i,i ∉ l→Off N i→Off (ZcE N l) i
  | [],N,h=>⟨h,Sub.refl N,fun _ _ h=>h⟩
  | k::l,N,h=>by
    obtain⟨h1,h2,h3⟩:=ZeE l (Zcv h k true);exact⟨h1,h2.trans (Zdc k true),fun i hi ho=>h3 i (fun e=>hi (by simp[e])) (ho.ready h.sk (fun e=>hi (by simp[e])))⟩
theorem ZjH {s :KS} (h:KOk s) (t:Int):KOk (ZaZ s t).2:=by
  obtain⟨h1,h2,h3⟩:=ZeE (Zbf t s.tm) h.wf;have hin:∀i∈Zbf t s.tm,∃p∈s.tm,p.1=i∧p.2≤t:=fun i hi=>by
    obtain⟨u,hu,ht⟩:=(ZmD t i).1 hi;exact⟨_,hu,rfl,ht⟩
  refine⟨h1,ids_sub h2 h.ids,h.nx,h.mt,h.mg,(Zjn _ _).le h.ct,h.tm.rest t,fun p hp=>?_,h.ob,h.obc,fun o ho i hi=>?_,h.obn,h.obd,fun p hp o ho=>h.dis p ((ZjE t p).1 hp).1 o ho⟩
  · obtain⟨hp1,hp2⟩:=(ZjE t p).1 hp
    refine h3 _ (fun e=>?_) (h.tmo p hp1);obtain⟨q,hq,he,hqt⟩:=hin _ e;have:q=p:=by
      by_cases c:q=p
      · exact c
      · have hpw:=h.tm
        exact absurd he (fun e=>by
          have hd:s.tm.Pairwise (fun a b=>a.1≠b.1):=hpw.imp (fun hab=>by omega);exact(List.Pairwise.forall_of_forall_of_flip (R:=fun a b:Int×Int=>a=b∨a.1≠b.1) (fun x _=> .inl rfl) (hd.imp fun hab=> .inr hab) (hd.imp fun hab=> .inr fun e=>hab e.symm) hq hp1).elim c (fun hne=>hne e))
    subst this;omega
  · refine h3 _ (fun e=>?_) (h.obo o ho i hi)
    obtain⟨q,hq,he,_⟩:=hin _ e;exact h.dis q hq o ho (he▸hi)
def k0 (mt mg:Int):KS:=(Zau ⟨[rootN],[],[(0,[]),(0,[]),(0,[]),(0,[])],mt,mg,1⟩ 0 1).2
theorem Zpn {mt mg:Int}(h1:1≤mt∧mt≤8)(h2:0≤mg∧mg≤4):KOk ⟨[rootN],[],[(0,[]),(0,[]),(0,[]),(0,[])],mt,mg,1⟩:=by
 have hob:∀o∈([(0,[]),(0,[]),(0,[]),(0,[])]:List Ob),o=(0,[]):=fun o ho=>by simpa using ho
 refine⟨Ze1,fun x hx=>?_,Int.le_refl _,h1,h2,⟨by rw[show kcnt [rootN] true=0 by decide];show(0:Int)≤mt;omega,by rw[show kcnt [rootN] false=0 by decide];show(0:Int)≤mg;omega⟩,List.Pairwise.nil,fun _ h=>absurd h List.not_mem_nil,rfl,fun o ho=>?_,fun o ho i hi=>?_,fun o ho=>?_,fun i j a b hij ha hb x hxa=>?_,fun _ h=>absurd h List.not_mem_nil⟩
 ·rcases List.mem_singleton.1 hx with rfl;show(0:Int)<1;omega
 ·rw[hob o ho];exact⟨by decide,by decide⟩
 ·rw[hob o ho]at hi;cases hi
 ·rw[hob o ho];exact List.nodup_nil
 ·rw[hob a (gMm ha)]at hxa;cases hxa
theorem k0_ok {mt mg:Int}(h1:1≤mt∧mt≤8)(h2:0≤mg∧mg≤4):KOk (k0 mt mg):=Zfb (Zpn h1 h2) 0 1
abbrev Rec :=Int×Int×Int×Int
structure RgS where
 l:List Rec
 room:Int
 last:Int
def rg0 (room:Int):RgS:=⟨[],mnI (mxI room 1) 16,0⟩
def Zey (r:RgS)(t op c:Int):List Rec:=r.l++[(IntKind.i64.wrap (r.last+1),t,op,c)]
def ZbT (r:RgS)(t op c:Int):RgS:=⟨if r.room< ((Zey r t op c).length:Int)then(Zey r t op c).drop 1 else Zey r t op c,r.room,IntKind.i64.wrap (r.last+1)⟩
def Zg7 (r:RgS)(seq:Int):Option Rec:=r.l.find? fun x=>decide (seq≤x.1)
structure RgOk (r:RgS):Prop where
 room:1≤r.room∧r.room≤16
 len:(r.l.length:Int)≤r.room
theorem Zpf (room:Int):RgOk (rg0 room):=⟨by unfold rg0 mnI mxI;simp only;repeat' split<;>omega,by unfold rg0 mnI mxI;simp only[List.length_nil];repeat' split<;>omega⟩
theorem ZjA {r:RgS}(h:RgOk r)(t op c:Int):RgOk (ZbT r t op c):=by
 have h1:=h.room;have h2:=h.len;have h3:((Zey r t op c).length:Int)=r.l.length+1:=by simp[Zey]
 refine⟨h1,?_⟩;show((if r.room< ((Zey r t op c).length:Int)then(Zey r t op c).drop 1 else Zey r t op c).length:Int)≤r.room;split
 ·rw[List.length_drop];omega
 ·omega
structure BxS where
 l:List (Int×Int)
 room:Int
def bx0 (room:Int):BxS:=⟨[],mnI (mxI room 1) 8⟩
def Zjh (b:BxS)(d:Int):Int:=((b.l.filter fun x=>x.1==d).length:Int)
def Zb0 (b:BxS)(d x:Int):BxS:=if b.room≤Zjh b d then b else⟨b.l++[(d,x)],b.room⟩
def ZbS (b:BxS):BxS:=⟨b.l.drop 1,b.room⟩
def sends (n:Int):Int:=mnI (mxI n 0) 8
theorem ZeH (n:Int):0≤sends n∧sends n≤8:=by unfold sends mnI mxI;repeat' split<;>omega
structure Acc where
 own:Int
 got:Int
 idle:Int
 freed:Int
def Zd3 (l:List Acc)(d:Int):Bool:=decide (0≤d)&&decide (d< (l.length:Int))
def ZdK (a b:Acc):Acc:=⟨a.own+b.own,a.got+b.got,a.idle+b.idle,a.freed+b.freed⟩
def Za7 (l:List Acc)(d:Int)(x:Acc):List Acc:=if Zd3 l d then l.set d.toNat (ZdK (l.getD d.toNat ⟨0,0,0,0⟩) x)else l
def ZaF (l:List Acc)(d:Int):Acc:=if Zd3 l d then l.getD d.toNat ⟨0,0,0,0⟩else⟨0,0,0,0⟩
def Zcb (l:List Acc)(o w:Int):List Acc:=if w=o then Za7 l o ⟨1,0,0,0⟩else Za7 (Za7 l w ⟨0,1,0,0⟩) o ⟨0,0,1,0⟩
def Za1 (l:List Acc)(o f w:Int):List Acc:=if Zd3 l o=false then l else Za7 (Zcb l o w) f ⟨0,0,0,1⟩
def AccIn (a m:Acc):Prop:=(0≤a.own∧a.own≤m.own)∧(0≤a.got∧a.got≤m.got)∧(0≤a.idle∧a.idle≤m.idle)∧(0≤a.freed∧a.freed≤m.freed)
def LdIn (l:List Acc)(m:Acc):Prop:=∀a∈l,AccIn a m
def acK (m:Int):Acc:=⟨m,m,m,m⟩
def LdOk (l:List Acc)(m:Int):Prop:=LdIn l (acK m)
theorem AccIn.zero {m:Acc}(h1:0≤m.own)(h2:0≤m.got)(h3:0≤m.idle)(h4:0≤m.freed):AccIn ⟨0,0,0,0⟩ m:=⟨⟨Int.le_refl _,h1⟩,⟨Int.le_refl _,h2⟩,⟨Int.le_refl _,h3⟩,⟨Int.le_refl _,h4⟩⟩
theorem AccIn.le {a m n:Acc}(h:AccIn a m)(h1:m.own≤n.own)(h2:m.got≤n.got)(h3:m.idle≤n.idle)(h4:m.freed≤n.freed):AccIn a n:=by
 unfold AccIn at*;omega
theorem LdIn.le {l:List Acc}{m n:Acc}(h:LdIn l m)(h1:m.own≤n.own)(h2:m.got≤n.got)(h3:m.idle≤n.idle)(h4:m.freed≤n.freed):LdIn l n:=fun a ha=>(h a ha).le h1 h2 h3 h4
theorem LdIn.add {l:List Acc}{m x:Acc}(h:LdIn l m)(d:Int)(h1:0≤x.own)(h2:0≤x.got)(h3:0≤x.idle)(h4:0≤x.freed):LdIn (Za7 l d x) (ZdK m x):=by
 unfold Za7;split
 ·rename_i hd
  intro a ha;rcases List.mem_or_eq_of_mem_set ha with ha|rfl
  ·have:=h a ha
   unfold AccIn ZdK at*;simp only;omega
  ·have hl:d.toNat<l.length:=by simp[Zd3]at hd;omega
   have:=h _ (List.getElem_mem hl);rw[List.getD_eq_getElem?_getD,gEe hl];unfold AccIn ZdK at*;simp only[Option.getD_some];omega
 ·intro a ha
  have:=h a ha;unfold AccIn ZdK at*;simp only;omega
theorem ZcJ (l:List Acc)(d:Int)(x:Acc):(Za7 l d x).length=l.length:=by unfold Za7;split<;>simp
theorem Zcn (l:List Acc)(o w:Int):(Zcb l o w).length=l.length:=by unfold Zcb;split<;>simp[ZcJ]
theorem Ze9 (l:List Acc)(o f w:Int):(Za1 l o f w).length=l.length:=by
 unfold Za1;split
 ·rfl
 ·rw[ZcJ,Zcn]
theorem LdOk.count {l:List Acc}{m:Int}(h:LdOk l m)(o f w:Int):LdOk (Za1 l o f w) (m+1):=by
 have h0:LdOk l (m+1):=h.le (by show m≤m+1;omega) (by show m≤m+1;omega) (by show m≤m+1;omega) (by show m≤m+1;omega);unfold Za1;split
 ·exact h0
 ·have hm:LdIn (Zcb l o w) ⟨m+1,m+1,m+1,m⟩:=by
   unfold Zcb;split
   ·exact(LdIn.add h o (x:=⟨1,0,0,0⟩) (by decide) (by decide) (by decide) (by decide)).le (by show m+1≤m+1;omega) (by show m+0≤m+1;omega) (by show m+0≤m+1;omega) (by show m+0≤m;omega)
   ·exact((LdIn.add h w (x:=⟨0,1,0,0⟩) (by decide) (by decide) (by decide) (by decide)).add o (x:=⟨0,0,1,0⟩) (by decide) (by decide) (by decide) (by decide)).le (by show m+0+0≤m+1;omega) (by show m+1+0≤m+1;omega) (by show m+0+1≤m+1;omega) (by show m+0+0≤m;omega)
  exact(hm.add f (x:=⟨0,0,0,1⟩) (by decide) (by decide) (by decide) (by decide)).le (by show m+1+0≤m+1;omega) (by show m+1+0≤m+1;omega) (by show m+1+0≤m+1;omega) (by show m+1≤m+1;omega)
theorem LdOk.mono {l:List Acc}{m n:Int}(h:LdOk l m)(hmn:m≤n):LdOk l n:=LdIn.le h hmn hmn hmn hmn
def Zaf (l:List Acc):Acc:=l.foldl ZdK ⟨0,0,0,0⟩
structure LtS where
 plan:Int
 lv:List Int
 askp:Int
 ask:List Int
def lt0 (n:Nat):LtS:=⟨0,List.replicate n 0,0,List.replicate n 0⟩
def Zdv (s:LtS):LtS:={s with plan:=s.askp,lv:=s.ask}
def ZaW (s:LtS)(plans:Nat)(i:Int):Int×LtS:=if i<0∨(plans:Int)≤i then(10,s)else(0,{s with askp:=i})
def Zsg (a b:Int):Bool:=IntKind.u64.wrap ((BitVec.ofInt 64 a&&& ~~~ BitVec.ofInt 64 b).toNat:Int)==0
def ZcZ (a b:LabV):Bool:=decide (a.level≤b.level)&&Zsg a.cats b.cats
theorem ZiU (H:List SP)(a b:LabV):US 200 #[.agg #[vi a.level,.int .u64 a.cats],.agg #[vi b.level,.int .u64 b.cats]] H (.bool (ZcZ a b)):=by
 refine eG func200 18 ?_;refine Xq (Xg 3 (Xs (Xn 41 [vi a.level,.int .u64 a.cats] (some 2) (fun b=>vp b)) (fun b1=>?_) 2));refine Xs (Xn 41 [vi b.level,.int .u64 b.cats] (some 3) (fun b=>vp b)) (fun b2=>?_) 1;refine Ae 1 ?_;refine Xq (Xg 14 (Xl [(3,vp b2),(2,vp b1),(4,.bool false),(10,.bool (decide (a.level≤b.level)))] [(⟨b1,0,none⟩,vi a.level),(⟨b2,0,none⟩,vi b.level)] (hasC (ba 1) (hasC (ba 0) Zaa)) ?_ 8 6));refine(Xs0 1 7 [(4,.bool false),(17,.bool ((decide (a.level≤b.level))&& ((IntKind.u64.wrap ((BitVec.ofInt 64 a.cats&&& ~~~ BitVec.ofInt 64 b.cats).toNat:Int))==0)))] ?_ ?_:RT _ _ _ _ _ _ 8 _)
 ·cases hg6:(decide (a.level≤b.level))with
  |true=>
   refine Xm [(4,.bool false),(17,.bool ((IntKind.u64.wrap ((BitVec.ofInt 64 a.cats&&& ~~~ BitVec.ofInt 64 b.cats).toNat:Int))==0))] [(⟨b1,1,none⟩,.int .u64 a.cats),(⟨b2,1,none⟩,.int .u64 b.cats)] (hasC (ba 1) (hasC (ba 0) Zaa)) ?_ 7;refine Xp [(4,.bool false),(17,.bool (true&& ((IntKind.u64.wrap ((BitVec.ofInt 64 a.cats&&& ~~~ BitVec.ofInt 64 b.cats).toNat:Int))==0)))] ?_;exact Zcm () rfl rfl
  |false=>
   refine Ae 7 ?_;exact mA ()
 refine Xe [(4,.bool ((decide (a.level≤b.level))&& ((IntKind.u64.wrap ((BitVec.ofInt 64 a.cats&&& ~~~ BitVec.ofInt 64 b.cats).toNat:Int))==0)))] ?_ 1;refine Xv (Y0 (.bool ((decide (a.level≤b.level))&& ((IntKind.u64.wrap ((BitVec.ofInt 64 a.cats&&& ~~~ BitVec.ofInt 64 b.cats).toNat:Int))==0))) (fun w hs=>?_));exact⟨(),rfl,hs.tail.tail⟩
theorem Zda (H:List SP)(a b:LabV):US 16 #[.agg #[vi a.level,.int .u64 a.cats],.agg #[vi b.level,.int .u64 b.cats]] H (.bool (ZcZ a b)):=by
 refine eG func16 18 ?_;refine Xq (Xg 3 (Xs (Xn 41 [vi a.level,.int .u64 a.cats] (some 2) (fun b=>vp b)) (fun b1=>?_) 2));refine Xs (Xn 41 [vi b.level,.int .u64 b.cats] (some 3) (fun b=>vp b)) (fun b2=>?_) 1;refine Ae 1 ?_;refine Xq (Xg 14 (Xl [(3,vp b2),(2,vp b1),(4,.bool false),(10,.bool (decide (a.level≤b.level)))] [(⟨b1,0,none⟩,vi a.level),(⟨b2,0,none⟩,vi b.level)] (hasC (ba 1) (hasC (ba 0) Zaa)) ?_ 8 6));refine(Xs0 1 7 [(4,.bool false),(17,.bool ((decide (a.level≤b.level))&& ((IntKind.u64.wrap ((BitVec.ofInt 64 a.cats&&& ~~~ BitVec.ofInt 64 b.cats).toNat:Int))==0)))] ?_ ?_:RT _ _ _ _ _ _ 8 _)
 ·cases hg6:(decide (a.level≤b.level))with
  |true=>
   refine Xm [(4,.bool false),(17,.bool ((IntKind.u64.wrap ((BitVec.ofInt 64 a.cats&&& ~~~ BitVec.ofInt 64 b.cats).toNat:Int))==0))] [(⟨b1,1,none⟩,.int .u64 a.cats),(⟨b2,1,none⟩,.int .u64 b.cats)] (hasC (ba 1) (hasC (ba 0) Zaa)) ?_ 7;refine Xp [(4,.bool false),(17,.bool (true&& ((IntKind.u64.wrap ((BitVec.ofInt 64 a.cats&&& ~~~ BitVec.ofInt 64 b.cats).toNat:Int))==0)))] ?_;exact Zcm () rfl rfl
  |false=>
   refine Ae 7 ?_;exact mA ()
 refine Xe [(4,.bool ((decide (a.level≤b.level))&& ((IntKind.u64.wrap ((BitVec.ofInt 64 a.cats&&& ~~~ BitVec.ofInt 64 b.cats).toNat:Int))==0)))] ?_ 1;refine Xv (Y0 (.bool ((decide (a.level≤b.level))&& ((IntKind.u64.wrap ((BitVec.ofInt 64 a.cats&&& ~~~ BitVec.ofInt 64 b.cats).toNat:Int))==0))) (fun w hs=>?_));exact⟨(),rfl,hs.tail.tail⟩
theorem ZsE {n l:Nat}{L:List (Nat×Value)}{H:List SP}{f:Act→World→Prop}{Q:Exit→Act→World→Prop}(h:PT n L H (Q (.goto l))):PT n L H (Exit.then f Q (.goto l)):=h
def domIs (c:ConfV)(d:Int):Bool:=decide (d≥0)&&decide (d< (c.domains.l.length:Int))
def labOf (c:ConfV)(d:Int):LabV:=((c.domains.l[d.toNat]?).map (·.lab)).getD ⟨0,0⟩
def Zg9 (c:ConfV)(d:Int):Int:=(((c.domains.l[d.toNat]?).map (·.release.l.length)).getD 0:Nat)
def Zah (c:ConfV)(a b:Int):Int:=if(domIs c a&&domIs c b)=true then(if ZcZ (labOf c a) (labOf c b)=true then 0 else 15)else 13
def Zbb (c:ConfV)(d i:Int):Int:=if((List.range c.domains.l.length).all fun(k:Nat)=>Zah c d (k:Int)==0)=true then(if i<0∨(c.plans.l.length:Int)≤i then 10 else 0)else 15
def ZaM (c:ConfV)(d v:Int):Int:=if domIs c d=true∧0≤v∧v<Zg9 c d then 0 else 10
theorem Zcp {c:ConfV}{d:Int}(h:domIs c d=true):∃i y,d=((i:Nat):Int)∧c.domains.l[i]? =some y:=by
 simp[domIs]at h;have hl:d.toNat<c.domains.l.length:=by omega
 exact⟨d.toNat,_,by omega,gEe hl⟩
theorem Zf1 (H:List SP)(c:ConfV)(d:Int):US 177 #[cV c,vi d] H (.bool (domIs c d)):=by
 refine eG func177 14 ?_;refine Xq<|Xg 2<|Bx 1 (Xn 26 [vi c.frame,vi c.epoch,.slice c.plans.a c.plans.l.length c.plans.c,.slice c.domains.a c.domains.l.length c.domains.c] (some 2) (fun b=>vp b)) fun b1=>Be<|Xq (Xg 10 (Cr 7 3 [(2,vp b1),(1,vi d),(4,.bool false),(7,.bool (decide (d≥0)))] ?_))
 refine(Xs0 1 6 [(4,.bool false),(13,.bool ((decide (d≥0))&& (decide (d< (c.domains.l.length:Int)))))] ?_ ?_:RT _ _ _ _ _ _ 7 _)
 ·cases hg3:(decide (d≥0))with
  |true=>
   refine Am 6 [(⟨b1,3,none⟩,.slice c.domains.a c.domains.l.length c.domains.c)] (hasC (ba 0) Zaa) ?_;exact mA ()
  |false=>
   refine Ae 6 ?_;exact mA ()
 exact Be<|Xv (Y0 (.bool ((decide (d≥0))&& (decide (d< (c.domains.l.length:Int))))) fun w hs=>⟨(),rfl,hs.tail⟩)
theorem ZeN {H:List SP}{c:ConfV}{d:Int}{v:Bool}(h:domIs c d=v):∀w,Sat w H→Calls Tryz.prog 177 #[.agg #[vi c.frame,vi c.epoch,.slice c.plans.a c.plans.l.length c.plans.c,.slice c.domains.a c.domains.l.length c.domains.c],vi d] w (Ret (ι:=Unit) (fun _=> .bool v) fun _=>H):=h▸Zf1 H c d
theorem ZcU (H:List SP)(c:ConfV)(hk:KC H c)(a b:Int):∀w,Sat w H→Calls Tryz.prog 174 #[.agg #[vi c.frame,vi c.epoch,.slice c.plans.a c.plans.l.length c.plans.c,.slice c.domains.a c.domains.l.length c.domains.c],vi a,vi b] w (Ret (ι:=Unit) (fun _=>Zal (Zah c a b)) fun _=>H):=by
 refine eG func174 33 ?_;rcases Bool.eq_false_or_eq_true (domIs c a)with h0|h0
 ·refine Xq (Xg 2 (Xs (Xn 26 [vi c.frame,vi c.epoch,.slice c.plans.a c.plans.l.length c.plans.c,.slice c.domains.a c.domains.l.length c.domains.c] (some 3) (fun b=>vp b)) (fun b1=>?_) 1));refine Ae 1 ?_;refine Xq (Xq (Xg 10 (Al [(⟨b1,0,none⟩,vi c.frame),(⟨b1,1,none⟩,vi c.epoch),(⟨b1,2,none⟩,.slice c.plans.a c.plans.l.length c.plans.c),(⟨b1,3,none⟩,.slice c.domains.a c.domains.l.length c.domains.c)] (hasC (ba 0) (hasC (ba 0) (hasC (ba 0) (hasC (ba 0) Zaa)))) ?_ 8 2)));refine Xs (Xa (some 9) _ (ZeN h0)) (fun _=>?_) 7;refine Al [(⟨b1,0,none⟩,vi c.frame),(⟨b1,1,none⟩,vi c.epoch),(⟨b1,2,none⟩,.slice c.plans.a c.plans.l.length c.plans.c),(⟨b1,3,none⟩,.slice c.domains.a c.domains.l.length c.domains.c)] (hasC (ba 0) (hasC (ba 0) (hasC (ba 0) (hasC (ba 0) Zaa)))) ?_ 3 4;refine Xs (Xa (some 14) _ (Zf1 _ c b)) (fun _=>?_) 2;refine Xe [(3,vp b1),(1,vi a),(2,vi b),(6,.nilIface),(16,.bool (!(domIs c b)))] ?_ 2;cases h1:(domIs c b)with
  | true=>
   have hne:(domIs c a&&domIs c b)=true:=by rw[h0,h1];rfl
   refine Xc false (fun h=>by cases h) (fun _=>?_);refine Xk (Xq (Xq (Xy0 0 [] 14 ?_)));refine Xt [0,1,2,6,7,8] [(6,.nilIface),(19,.slice c.domains.a c.domains.l.length c.domains.c),(20,vi a),(25,.slice c.domains.a c.domains.l.length c.domains.c),(26,vi b)] [(⟨b1,3,none⟩,.slice c.domains.a c.domains.l.length c.domains.c),(⟨b1,3,none⟩,.slice c.domains.a c.domains.l.length c.domains.c)] (hasC (ba 0) (hasC (ba 0) Zaa)) ?_;obtain⟨i,x,rfl,hx⟩:=Zcp (c:=c) (d:=a) h0;obtain⟨j,y,rfl,hy⟩:=Zcp (c:=c) (d:=b) h1;have hlx:labOf c (i:Int)=x.lab:=by rw[labOf,Int.toNat_natCast,hx];rfl
   have hly:labOf c (j:Int)=y.lab:=by rw[labOf,Int.toNat_natCast,hy];rfl
   have hil:=(gSs hx).1;have hjl:=(gSs hy).1;refine PT.know ((hk.domains).up.isSome ((by intro h9;rw[h9]at hil;simp at hil))) ?_;rintro⟨db,dd,hA⟩
   try rw[hA]
   refine Xu 3 (Xi 24 (.tmp 19) (.tmp 20) db dd c.domains.l.length c.domains.c i 10 44 (i:Int) 21 underlying24) ?_;refine At' [4,5] [(⟨db,dd+i*10,none⟩,vi x.lab.level),(⟨db,dd+i*10+1,none⟩,.int .u64 x.lab.cats)] (hasC (up (hk.domains.cell hA (i:=i) (x:=x) hx (j:=0) rfl)) (hasC (up (hk.domains.cell hA (i:=i) (x:=x) hx (j:=1) rfl)) Zaa)) ?_;refine Xu 9 (Xi 24 (.tmp 25) (.tmp 26) db dd c.domains.l.length c.domains.c j 10 44 (j:Int) 27 underlying24) ?_;refine At' [10,11] [(⟨db,dd+j*10,none⟩,vi y.lab.level),(⟨db,dd+j*10+1,none⟩,.int .u64 y.lab.cats)] (hasC (up (hk.domains.cell hA (i:=j) (x:=y) hy (j:=0) rfl)) (hasC (up (hk.domains.cell hA (i:=j) (x:=y) hy (j:=1) rfl)) Zaa)) ?_;refine Xo 12 (Xa (some 30) _ (ZiU _ x.lab y.lab)) (fun _=>?_);refine Xt [13] [(6,.nilIface),(31,.bool (!(ZcZ x.lab y.lab)))] [] Zaa ?_;refine Xd ?_;cases h2:(ZcZ x.lab y.lab)with
   |true=>
    refine Xc false (fun h=>by cases h) (fun _=>?_);refine Xk (Xq (Xg 1 (Ae 1 ?_)));refine Xv (Y0 (.nilIface) (fun w hs=>?_));exact⟨(),by rw[Zah,if_pos hne,hlx,hly,if_pos h2];rfl,hs.tail⟩
   |false=>
    refine Xc true (fun _=>?_) (fun h=>by cases h);refine Xq (Xg 2 (Ae 2 ?_));refine Xv (Zab (Y0 (.iface 126 (vi 15)) (fun w hs=>?_)));exact⟨(),by rw[Zah,if_pos hne,hlx,hly,if_neg (by rw[h2];simp)];rfl,hs.tail⟩
  |false=>
   have hne:(domIs c a&&domIs c b)=false:=by rw[h0,h1];rfl
   refine Xc true (fun _=>?_) (fun h=>by cases h);refine Xq (Xg 2 (Ae 2 ?_));refine Xv (Zab (Y0 (.iface 126 (vi 13)) (fun w hs=>?_)));exact⟨(),by rw[Zah,if_neg (by rw[hne];simp)];rfl,hs.tail⟩
 ·have hne:(domIs c a&&domIs c b)=false:=by rw[h0];rfl
  refine Xq (Xg 2 (Xs (Xn 26 [vi c.frame,vi c.epoch,.slice c.plans.a c.plans.l.length c.plans.c,.slice c.domains.a c.domains.l.length c.domains.c] (some 3) (fun b=>vp b)) (fun b1=>?_) 1));refine Ae 1 ?_;refine Xq (Xq (Xg 10 (Al [(⟨b1,0,none⟩,vi c.frame),(⟨b1,1,none⟩,vi c.epoch),(⟨b1,2,none⟩,.slice c.plans.a c.plans.l.length c.plans.c),(⟨b1,3,none⟩,.slice c.domains.a c.domains.l.length c.domains.c)] (hasC (ba 0) (hasC (ba 0) (hasC (ba 0) (hasC (ba 0) Zaa)))) ?_ 8 2)));refine Xs (Xa (some 9) _ (ZeN h0)) (fun _=>?_) 7;refine Ae 7 ?_;refine Xc true (fun _=>?_) (fun h=>by cases h);refine Xq (Xg 2 (Ae 2 ?_));refine Xv (Zab (Y0 (.iface 126 (vi 13)) (fun w hs=>?_)));exact⟨(),by rw[Zah,if_neg (by rw[hne];simp)];rfl,hs.tail⟩
theorem Znp {H:List SP}{c:ConfV}(hk:KC H c){a b:Int}(h:Zah c a b=0):US 174 #[cV c,vi a,vi b] H .nilIface:=by
 have:=ZcU H c hk a b;rw[h]at this;exact this
theorem Znq {H:List SP}{c:ConfV}(hk:KC H c){a b:Int}(h:Zah c a b≠0):US 174 #[cV c,vi a,vi b] H (.iface 126 (vi (Zah c a b))):=by
 have:=ZcU H c hk a b;simp only[Zal,if_neg h]at this;exact this
theorem ZeA (H:List SP)(c:ConfV)(hk:KC H c)(d v:Int):∀w,Sat w H→Calls Tryz.prog 125 #[.agg #[vi c.frame,vi c.epoch,.slice c.plans.a c.plans.l.length c.plans.c,.slice c.domains.a c.domains.l.length c.domains.c],vi d,vi v] w (Ret (ι:=Unit) (fun _=>Zal (ZaM c d v)) fun _=>H):=by
 refine eG func125 27 ?_;rcases Bool.eq_false_or_eq_true (domIs c d)with hd|hd
 ·obtain⟨i,x,rfl,hx⟩:=Zcp hd;have hil:=(gSs hx).1;have hrl:Zg9 c (i:Int)=(x.release.l.length:Int):=by rw[Zg9,Int.toNat_natCast,hx];rfl
  have he:ZaM c (i:Int) v=if 0≤v∧v< (x.release.l.length:Int)then 0 else 10:=by rw[ZaM,hrl];simp only[hd,true_and]
  refine PT.know ((hk.domains).isSome ((by intro h0;rw[h0]at hil;simp at hil))) ?_;rintro⟨db,dd,hA⟩
  try rw[hA]
  refine Xq (Xg 2 (Xs (Xn 26 [vi c.frame,vi c.epoch,.slice c.plans.a c.plans.l.length c.plans.c,.slice (some ⟨db,dd,none⟩) c.domains.l.length c.domains.c] (some 3) (fun b=>vp b)) (fun b1=>?_) 1));refine Ae 1 ?_;refine Xq (Xq (Xg 19 (Al [(⟨b1,0,none⟩,vi c.frame),(⟨b1,1,none⟩,vi c.epoch),(⟨b1,2,none⟩,.slice c.plans.a c.plans.l.length c.plans.c),(⟨b1,3,none⟩,.slice (some ⟨db,dd,none⟩) c.domains.l.length c.domains.c)] (hasC (ba 0) (hasC (ba 0) (hasC (ba 0) (hasC (ba 0) Zaa)))) ?_ 17 2)));refine Xs (Xa (some 9) _ ((by have h9:=ZeN (H:=(blk b1 26 [.int .i64 c.frame,.int .i64 c.epoch,.slice c.plans.a c.plans.l.length c.plans.c,.slice (some ⟨db,dd,none⟩) c.domains.l.length c.domains.c]::H)) hd;rw[hA]at h9;exact h9))) (fun _=>?_) 16;refine Xr [(3,vp b1),(1,vi i),(2,vi v),(6,.nilIface),(15,.bool (decide (v<0)))] ?_ 10 6;refine(Xs0 0 10 [(6,.nilIface),(25,.bool ((decide (v<0))||(decide (v≥(x.release.l.length:Int)))))] ?_ ?_:RT _ _ _ _ _ _ 10 _)
  ·cases hg9:(decide (v<0))with
   |true=>
    refine Ae 10 ?_;refine Xp [(6,.nilIface),(25,.bool (true||(decide (v≥(x.release.l.length:Int)))))] ?_;exact Zcm () rfl rfl
   |false=>
    refine Xl [(6,.nilIface),(15,.bool false),(16,vi v),(18,.slice (some ⟨db,dd,none⟩) c.domains.l.length c.domains.c),(19,vi i)] [(⟨b1,3,none⟩,.slice (some ⟨db,dd,none⟩) c.domains.l.length c.domains.c)] (hasC (ba 0) Zaa) ?_ 6 4;refine Xs (Zav (Xi 24 (.tmp 18) (.tmp 19) db dd c.domains.l.length c.domains.c i 10 44 (i:Int) 20 underlying24)) (fun _=>?_) 5;refine Xm [(6,.nilIface),(25,.bool (decide (v≥(x.release.l.length:Int))))] [(⟨db,dd+i*10+3,none⟩,.slice x.release.a x.release.l.length x.release.c)] (hasC (up (hk.domains.cell hA (i:=i) (x:=x) hx (j:=3) rfl)) Zaa) ?_ 5;refine Xp [(6,.nilIface),(25,.bool (false||(decide (v≥(x.release.l.length:Int)))))] ?_;exact Zcm () rfl rfl
  refine endR ?_;cases hv:((decide (v<0))||(decide (v≥(x.release.l.length:Int))))with
  |true=>
   rw[if_neg (by simp at hv;omega)]at he;refine Xc true (fun _=>?_) (fun h=>by cases h);refine Xq (Xg 2 (Ae 2 ?_));refine Xv (Zab (Y0 (.iface 126 (vi 10)) (fun w hs=>?_)));exact⟨(),by rw[he];rfl,hs.tail⟩
  |false=>
   rw[if_pos (by simp at hv;omega)]at he;refine Xc false (fun h=>by cases h) (fun _=>?_);refine Xk (Xq (Xg 1 (Ae 1 ?_)));refine Xv (Y0 (.nilIface) (fun w hs=>?_));exact⟨(),by rw[he];rfl,hs.tail⟩
 ·have he:ZaM c d v=10:=by rw[ZaM,if_neg (by rw[hd];simp)]
  refine Xq (Xg 2 (Xs (Xn 26 [vi c.frame,vi c.epoch,.slice c.plans.a c.plans.l.length c.plans.c,.slice c.domains.a c.domains.l.length c.domains.c] (some 3) (fun b=>vp b)) (fun b1=>?_) 1));refine Ae 1 ?_;refine Xq (Xq (Xg 19 (Al [(⟨b1,0,none⟩,vi c.frame),(⟨b1,1,none⟩,vi c.epoch),(⟨b1,2,none⟩,.slice c.plans.a c.plans.l.length c.plans.c),(⟨b1,3,none⟩,.slice c.domains.a c.domains.l.length c.domains.c)] (hasC (ba 0) (hasC (ba 0) (hasC (ba 0) (hasC (ba 0) Zaa)))) ?_ 17 2)));refine Xs (Xa (some 9) _ (ZeN hd)) (fun _=>?_) 16;refine Ae 16 ?_;refine Xc true (fun _=>?_) (fun h=>by cases h);refine Xq (Xg 2 (Ae 2 ?_));refine Xv (Zab (Y0 (.iface 126 (vi 10)) (fun w hs=>?_)));exact⟨(),by rw[he];rfl,hs.tail⟩
theorem Zfp (H:List SP)(c:ConfV)(hk:KC H c)(d o:Int):US 119 #[cV c,vi d,vi o] H (Zal (Zah c o d)):=by
 refine eG func119 11 ?_;exact Xq<|Xg 2<|Bx 1 (Xn 26 [vi c.frame,vi c.epoch,.slice c.plans.a c.plans.l.length c.plans.c,.slice c.domains.a c.domains.l.length c.domains.c] (some 3) (fun b=>vp b)) fun b1=>Be<|Xq<|Xg 5<|Bl 2 3 [(⟨b1,0,none⟩,vi c.frame),(⟨b1,1,none⟩,vi c.epoch),(⟨b1,2,none⟩,.slice c.plans.a c.plans.l.length c.plans.c),(⟨b1,3,none⟩,.slice c.domains.a c.domains.l.length c.domains.c)] (hasC (ba 0) (hasC (ba 0) (hasC (ba 0) (hasC (ba 0) Zaa))))<|Bs 1 (Xa (some 10) _ (ZcU _ c hk.up o d))<|Be<|Xv (Y0 (Zal (Zah c o d)) fun w hs=>⟨(),rfl,hs.tail⟩)
theorem Zfo (H:List SP)(c:ConfV)(hk:KC H c)(d o:Int):US 121 #[cV c,vi d,vi o] H (Zal (Zah c d o)):=by
 refine eG func121 11 ?_;exact Xq<|Xg 2<|Bx 1 (Xn 26 [vi c.frame,vi c.epoch,.slice c.plans.a c.plans.l.length c.plans.c,.slice c.domains.a c.domains.l.length c.domains.c] (some 3) (fun b=>vp b)) fun b1=>Be<|Xq<|Xg 5<|Bl 2 3 [(⟨b1,0,none⟩,vi c.frame),(⟨b1,1,none⟩,vi c.epoch),(⟨b1,2,none⟩,.slice c.plans.a c.plans.l.length c.plans.c),(⟨b1,3,none⟩,.slice c.domains.a c.domains.l.length c.domains.c)] (hasC (ba 0) (hasC (ba 0) (hasC (ba 0) (hasC (ba 0) Zaa))))<|Bs 1 (Xa (some 10) _ (ZcU _ c hk.up d o))<|Be<|Xv (Y0 (Zal (Zah c d o)) fun w hs=>⟨(),rfl,hs.tail⟩)
theorem Zfq (H:List SP)(c:ConfV)(hk:KC H c)(hl:c.domains.l.length≤1000)(d i:Int):∀w,Sat w H→Calls Tryz.prog 127 #[.agg #[vi c.frame,vi c.epoch,.slice c.plans.a c.plans.l.length c.plans.c,.slice c.domains.a c.domains.l.length c.domains.c],vi d,vi i] w (Ret (ι:=Unit) (fun _=>Zal (Zbb c d i)) fun _=>H):=by
 refine eG func127 31 ?_;refine Xq (Xg 2 (Xs (Xn 26 [vi c.frame,vi c.epoch,.slice c.plans.a c.plans.l.length c.plans.c,.slice c.domains.a c.domains.l.length c.domains.c] (some 3) (fun b=>vp b)) (fun b1=>?_) 1));refine Ae 1 ?_;refine ZcW 0 (fun(u:Nat)=> [(3,vp b1),(1,vi d),(2,vi i),(6,.nilIface),(7,vi u)]) (fun _=>(blk b1 26 [vi c.frame,vi c.epoch,.slice c.plans.a c.plans.l.length c.plans.c,.slice c.domains.a c.domains.l.length c.domains.c]::H)) (fun k (u:Nat)=>k+u=c.domains.l.length∧∀j,j<u→Zah c d ((j:Nat):Int)=0) Kr Kr Kr Kr ?_ ?_
 ·rintro k u ⟨hku,hno⟩ K hK;refine Xq (Xq (Xg 5 (Xm [(3,vp b1),(1,vi d),(2,vi i),(6,.nilIface),(7,vi u),(12,.bool (decide ((u:Int)< (c.domains.l.length:Int))))] [(⟨b1,3,none⟩,.slice c.domains.a c.domains.l.length c.domains.c)] (hasC (ba 0) Zaa) ?_ 5)));refine Xc (decide ((u:Int)< (c.domains.l.length:Int))) (fun h1=>?_) (fun h1=>?_)
  ·have hu:u<c.domains.l.length:=by have:=of_decide_eq_true h1;omega
   by_cases h2:Zah c d (u:Int)=0
   ·refine Xq (Xq (Xg 5 (Al [(⟨b1,0,none⟩,vi c.frame),(⟨b1,1,none⟩,vi c.epoch),(⟨b1,2,none⟩,.slice c.plans.a c.plans.l.length c.plans.c),(⟨b1,3,none⟩,.slice c.domains.a c.domains.l.length c.domains.c)] (hasC (ba 0) (hasC (ba 0) (hasC (ba 0) (hasC (ba 0) Zaa)))) ?_ 2 3)));refine Xs (Xa (some 16) _ (Znp hk.up h2)) (fun _=>?_) 1;refine Ae 1 ?_;refine Xc false (fun h=>by cases h) (fun _=>?_);refine Xk (Xq (Xg 3 (Xe [(3,vp b1),(1,vi d),(2,vi i),(6,.nilIface),(7,vi (IntKind.i64.wrap ((u:Int)+1)))] ?_ 3)));refine Zep 0 Kr Kr ?_;rw[show IntKind.i64.wrap ((u:Int)+1)=((u+1:Nat):Int)by rw[IntKind.wrap_i64];omega];have hno2:∀j,j<u+1→Zah c d ((j:Nat):Int)=0:=by
     intro j hj;by_cases e:j=u
     ·rw[e];exact h2
     ·exact hno j (by omega)
    refine ZsE ?_;refine Xp [(3,vp b1),(1,vi d),(2,vi i),(6,.nilIface),(7,vi ((u+1:Nat):Int))] ?_;exact Zen (hK (k-1) (u+1) (by omega) ⟨by omega,hno2⟩)
   ·have hne:((List.range c.domains.l.length).all fun(k:Nat)=>Zah c d (k:Int)==0)=false:=by
     rw[←Bool.not_eq_true];intro h3;exact h2 (eq_of_beq (List.all_eq_true.1 h3 u (by simp[hu])))
    refine Xq (Xq (Xg 5 (Al [(⟨b1,0,none⟩,vi c.frame),(⟨b1,1,none⟩,vi c.epoch),(⟨b1,2,none⟩,.slice c.plans.a c.plans.l.length c.plans.c),(⟨b1,3,none⟩,.slice c.domains.a c.domains.l.length c.domains.c)] (hasC (ba 0) (hasC (ba 0) (hasC (ba 0) (hasC (ba 0) Zaa)))) ?_ 2 3)));refine Xs (Xa (some 16) _ (Znq hk.up h2)) (fun _=>?_) 1;refine Ae 1 ?_;refine Xc true (fun _=>?_) (fun h=>by cases h);refine Xq (Xg 2 (Ae 2 ?_));refine Xv (Zab (Zab (ZcR (Y0 (.iface 126 (vi 15)) (fun w hs=>?_)))));exact⟨(),by rw[Zbb,if_neg (by rw[hne];simp)];rfl,hs.tail⟩
  ·have hu:u=c.domains.l.length:=by have:=of_decide_eq_false h1;omega
   have hne:((List.range c.domains.l.length).all fun(k:Nat)=>Zah c d (k:Int)==0)=true:=List.all_eq_true.2 fun j hj=>by rw[hno j (by have:=List.mem_range.1 hj;omega)];rfl
   refine Xk (Xq (Xq (Xg 9 (Xr [(3,vp b1),(1,vi d),(2,vi i),(6,.nilIface),(7,vi u),(23,.bool (decide (i<0)))] ?_ 6 3))));refine(Xs0 0 6 [(3,vp b1),(1,vi d),(2,vi i),(6,.nilIface),(7,vi u),(29,.bool ((decide (i<0))||(decide (i≥(c.plans.l.length:Int)))))] ?_ ?_:RT _ _ _ _ _ _ 6 _)
   ·cases hg3:(decide (i<0))with
    |true=>
     refine Xe [(3,vp b1),(1,vi d),(2,vi i),(6,.nilIface),(7,vi u),(29,.bool true)] ?_ 6;refine Xp [(3,vp b1),(1,vi d),(2,vi i),(6,.nilIface),(7,vi u),(29,.bool (true||(decide (i≥(c.plans.l.length:Int)))))] ?_;exact Zcm () rfl rfl
    |false=>
     refine Xm [(3,vp b1),(1,vi d),(2,vi i),(6,.nilIface),(7,vi u),(29,.bool (decide (i≥(c.plans.l.length:Int))))] [(⟨b1,2,none⟩,.slice c.plans.a c.plans.l.length c.plans.c)] (hasC (ba 0) Zaa) ?_ 6;refine Xp [(3,vp b1),(1,vi d),(2,vi i),(6,.nilIface),(7,vi u),(29,.bool (false||(decide (i≥(c.plans.l.length:Int)))))] ?_;exact Zcm () rfl rfl
   refine endR ?_;cases h4:((decide (i<0))||(decide (i≥(c.plans.l.length:Int))))with
   |true=>
    have h5:i<0∨(c.plans.l.length:Int)≤i:=by simp at h4;omega
    refine Xc true (fun _=>?_) (fun h=>by cases h);refine Xq (Xg 2 (Ae 2 ?_));refine Xv (Zab (ZcR (Y0 (.iface 126 (vi 10)) (fun w hs=>?_))));exact⟨(),by rw[Zbb,if_pos hne,if_pos h5];rfl,hs.tail⟩
   |false=>
    have h5:¬(i<0∨(c.plans.l.length:Int)≤i):=by simp at h4;omega
    refine Xc false (fun h=>by cases h) (fun _=>?_);refine Xk (Xq (Xg 1 (Ae 1 ?_)));refine Xv (ZcR (Y0 (.nilIface) (fun w hs=>?_)));exact⟨(),by rw[Zbb,if_pos hne,if_neg h5];rfl,hs.tail⟩
 ·intro K hK;refine Xq (Xg 1 (Ae 1 ?_));refine Xq ?_;refine ZcY Kr ?_;refine Xp [(3,vp b1),(1,vi d),(2,vi i),(6,.nilIface),(7,vi 0)] ?_;refine ZeC Kr (hK c.domains.l.length 0 ⟨by omega,fun j hj=>by omega⟩)
theorem ZhQ {H:List SP}{c:ConfV}(hk:KC H c){d o:Int}(h:Zah c o d=0):US 119 #[cV c,vi d,vi o] H .nilIface:=by
 have:=Zfp H c hk d o;rw[h]at this;exact this
theorem ZhR {H:List SP}{c:ConfV}(hk:KC H c){d o:Int}(h:Zah c o d≠0):US 119 #[cV c,vi d,vi o] H (.iface 126 (vi (Zah c o d))):=by
 have:=Zfp H c hk d o;simp only[Zal,if_neg h]at this;exact this
theorem Znl {H:List SP}{c:ConfV}(hk:KC H c){d o:Int}(h:Zah c d o=0):US 121 #[cV c,vi d,vi o] H .nilIface:=by
 have:=Zfo H c hk d o;rw[h]at this;exact this
theorem Znm {H:List SP}{c:ConfV}(hk:KC H c){d o:Int}(h:Zah c d o≠0):US 121 #[cV c,vi d,vi o] H (.iface 126 (vi (Zah c d o))):=by
 have:=Zfo H c hk d o;simp only[Zal,if_neg h]at this;exact this
theorem Zlc {H:List SP}{c:ConfV}(hk:KC H c){d v:Int}(h:ZaM c d v=0):US 125 #[cV c,vi d,vi v] H .nilIface:=by
 have:=ZeA H c hk d v;rw[h]at this;exact this
theorem Zld {H:List SP}{c:ConfV}(hk:KC H c){d v:Int}(h:ZaM c d v≠0):US 125 #[cV c,vi d,vi v] H (.iface 126 (vi (ZaM c d v))):=by
 have:=ZeA H c hk d v;simp only[Zal,if_neg h]at this;exact this
theorem Znn {H:List SP}{c:ConfV}(hk:KC H c){d i:Int}(hl:c.domains.l.length≤1000)(h:Zbb c d i=0):US 127 #[cV c,vi d,vi i] H .nilIface:=by
 have:=Zfq H c hk hl d i;rw[h]at this;exact this
theorem Zno {H:List SP}{c:ConfV}(hk:KC H c){d i:Int}(hl:c.domains.l.length≤1000)(h:Zbb c d i≠0):US 127 #[cV c,vi d,vi i] H (.iface 126 (vi (Zbb c d i))):=by
 have:=Zfq H c hk hl d i;simp only[Zal,if_neg h]at this;exact this
namespace G
section
variable {α :Type}{E:Enc α}{T:TypeId}{H:List SP}{P:Program}{n:Nat}{L:List (Nat×Value)}{c:Code}
theorem Zhk (z:Value)(m:Nat):(madeCells #[z] m).toList=List.replicate m z:=by
 apply List.ext_getElem
 ·simp[madeCells]
 ·intro i h1 h2;simp[madeCells,Nat.mod_one]
theorem Zdx (x0:α)(z:Value)(h:E.enc x0=[z]):∀m,E.flat (List.replicate m x0)=List.replicate m z
 |0=>rfl
 |m+1=>by rw[List.replicate_succ,Enc.flat_cons,Zdx x0 z h m,h,List.replicate_succ];rfl
theorem mkS {i:Nat}(t:TypeId)(ln cp:Operand)(m:Nat)(x0:α)(z:Value)(bytes:Nat)(d:Option Tmp)(hg:∀rest,Zcc n c i L rest=true)(hd:(Za5 c i).dst=d)(hop:(Za5 c i).op= .makeSlice t ln cp)
  (hl:∀rest,ZaD L rest ln= .int .i64 (m:Int)) (hc:∀rest,ZaD L rest cp= .int .i64 (m:Int)) (ht:P.underlying t=some (.slice T))
  (hinfo:(P.info? T).map (fun i=>(i.zero,i.size,i.bytes))=some (some z,1,bytes)) (hz1:z.cells= #[z]) (hx0:E.enc x0=[z]) (hb:bytes≤64) (hm:m≤1000000):
  Step P n L H c i d (fun b:Nat=> .slice (some ⟨b,0,none⟩) m m) (fun b=>row E T (.slice (some ⟨b,0,none⟩) m m) (List.replicate m x0)::H):=by
 refine valueS d _ _ hg hd ?_;intro rest w _ hs;have hk1:E.k=1:=by rw[←E.len x0,hx0];rfl
 have hbm:bytes*m≤64*1000000:=Nat.mul_le_mul hb hm;refine⟨w.heap.size,w.alloc (.cells (madeCells #[z] m) T),?_,?_⟩
 ·unfold execOp
  simp only[hop,hl,hc,Sem.run_bind,run_make_row' t T z bytes ht hinfo hz1 .i64 .i64 m (by omega) (by omega) w,Result.andThen_ok];rfl
 ·refine Sat.fresh hs (Upd.alloc _ _ _) (G':=ZbN w.heap.size) ?_ (fun b hb=>by cases hb;exact Nat.le_refl _)
  refine .inr ⟨w.heap.size,0,m,_,by rw[List.length_replicate],rfl,heap_alloc_new w _,by rw[List.length_replicate];exact Nat.le_refl _,by unfold maxLen;omega,?_,?_⟩
  ·have:(madeCells #[z] m).size=m:=by rw[←Array.length_toList,Zhk,List.length_replicate]
   rw[this,hk1];omega
  ·rw[List.drop_zero,Zhk,Zdx x0 z hx0,List.length_replicate,hk1,Nat.mul_one]
   exact List.take_of_length_le (by simp)
theorem ZjU (x0:α):∀(m i:Nat),i<m*E.k→(E.flat (List.replicate m x0))[i]? =(E.enc x0)[i%E.k]?
  |0,i,h=>by simp at h
  | m +1,i,h=>by
    have hk:=E.kpos;rw[List.replicate_succ,Enc.flat_cons];by_cases c:i<E.k
    · rw[List.getElem?_append_left (by rw[E.len];exact c),Nat.mod_eq_of_lt c]
    · rw[List.getElem?_append_right (by rw[E.len];omega),E.len,ZjU x0 m (i-E.k) (by rw[Nat.succ_mul]at h;omega)]
      congr 1;exact(Nat.mod_eq_sub_mod (by omega)).symm
theorem ZmF (z:Value)(m:Nat)(x0:α)(hz:z.cells.toList=E.enc x0):(madeCells z.cells (m*E.k)).toList=E.flat (List.replicate m x0):=by
 have hs:z.cells.size=E.k:=by rw[←Array.length_toList,hz,E.len]
 have hf:(E.flat (List.replicate m x0)).length=m*E.k:=by rw[E.flat_length,List.length_replicate]
 apply List.ext_getElem?;intro i;by_cases h:i<m*E.k
 ·rw[ZjU x0 m i h,←hz]
  have hi:i%E.k<z.cells.size:=by rw[hs];exact Nat.mod_lt _ E.kpos
  simp only[madeCells,Array.toList_map,Array.toList_range,List.getElem?_map,List.getElem?_range h,Option.map_some,hs];rw[Array.getElem?_toList,Array.getElem?_eq_getElem hi,getElem!_pos z.cells (i%E.k) hi]
 ·rw[List.getElem?_eq_none (by simp[madeCells];omega),List.getElem?_eq_none (by rw[hf];omega)]
theorem mkK {i:Nat}(t:TypeId)(ln cp:Operand)(m:Nat)(x0:α)(z:Value)(bytes:Nat)(d:Option Tmp)(hg:∀rest,Zcc n c i L rest=true)(hd:(Za5 c i).dst=d)(hop:(Za5 c i).op= .makeSlice t ln cp)
  (hl:∀rest,ZaD L rest ln= .int .i64 (m:Int)) (hc:∀rest,ZaD L rest cp= .int .i64 (m:Int)) (ht:P.underlying t=some (.slice T))
  (hinfo:(P.info? T).map (fun i=>(i.zero,i.size,i.bytes))=some (some z,E.k,bytes)) (hz1:z.cells.toList=E.enc x0) (_hx0:E.enc x0=E.enc x0) (hb:bytes≤1024) (hm:m≤1000000):
  Step P n L H c i d (fun b:Nat=> .slice (some ⟨b,0,none⟩) m m) (fun b=>row E T (.slice (some ⟨b,0,none⟩) m m) (List.replicate m x0)::H):=by
 refine valueS d _ _ hg hd ?_;intro rest w _ hs;obtain⟨inf,hi,hzz⟩:=Option.map_eq_some_iff.1 hinfo;simp only[Prod.mk.injEq]at hzz;obtain⟨hz,hsz,hbb⟩:=hzz;have hbm:bytes*m≤1024*1000000:=Nat.mul_le_mul hb hm;have hbi:(inf.bytes:Int)*(m:Int)≤281474976710656:=by
  rw[hbb,←Int.natCast_mul];omega
 have hr:=run_make (P:=P) w t T inf z ht hi hz .i64 .i64 (m:Int) (m:Int) (by omega) (Int.le_refl _) hbi (by omega);simp only[Int.toNat_natCast,hsz]at hr;refine⟨w.heap.size,w.alloc (.cells (madeCells z.cells (m*E.k)) T),?_,?_⟩
 ·unfold execOp
  simp only[hop,hl,hc,Sem.run_bind,hr,Result.andThen_ok];rfl
 ·refine Sat.fresh hs (Upd.alloc _ _ _) (G':=ZbN w.heap.size) ?_ (fun b hb=>by cases hb;exact Nat.le_refl _)
  have hsz2:(madeCells z.cells (m*E.k)).size=m*E.k:=size_madeCells _ _;refine .inr ⟨w.heap.size,0,m,_,by rw[List.length_replicate],rfl,heap_alloc_new w _,by rw[List.length_replicate];exact Nat.le_refl _,by unfold maxLen;omega,?_,?_⟩
  ·rw[hsz2];omega
  ·rw[List.drop_zero,ZmF z m x0 hz1,List.length_replicate]
   exact List.take_of_length_le (by rw[E.flat_length,List.length_replicate];exact Nat.le_refl _)
end
end G
def Zls (c:ConfV)(t:LtS):Prop:=t.lv.length=c.domains.l.length∧t.ask.length=c.domains.l.length∧c.domains.l.length≤1000
def ltS (b:Nat)(c:ConfV)(t:LtS):SP:=exS fun p:Nat×Nat=>two (Zcl (Zls c t)) (Zaz [blk b 139 [.int .i64 c.frame,.int .i64 c.epoch,.slice c.plans.a c.plans.l.length c.plans.c,.slice c.domains.a c.domains.l.length c.domains.c,.int .i64 t.plan,.slice (some ⟨p.1,0,none⟩) t.lv.length t.lv.length,.int .i64 t.askp,.slice (some ⟨p.2,0,none⟩) t.ask.length t.ask.length],row (kE .i64) 3 (.slice (some ⟨p.1,0,none⟩) t.lv.length t.lv.length) t.lv,row (kE .i64) 3 (.slice (some ⟨p.2,0,none⟩) t.ask.length t.ask.length) t.ask])
theorem Sat.openLt {b:Nat}{c:ConfV}{t:LtS}{H:List SP}{w:World}(h:Sat w (ltS b c t::H)):∃r q,Zls c t∧Sat w (blk b 139 [.int .i64 c.frame,.int .i64 c.epoch,.slice c.plans.a c.plans.l.length c.plans.c,.slice c.domains.a c.domains.l.length c.domains.c,.int .i64 t.plan,.slice (some ⟨r,0,none⟩) t.lv.length t.lv.length,.int .i64 t.askp,.slice (some ⟨q,0,none⟩) t.ask.length t.ask.length]::row (kE .i64) 3 (.slice (some ⟨r,0,none⟩) t.lv.length t.lv.length) t.lv::row (kE .i64) 3 (.slice (some ⟨q,0,none⟩) t.ask.length t.ask.length) t.ask::H):=by
 obtain⟨⟨r,q⟩,h⟩:=Sat.openEx h;obtain⟨h1,h⟩:=Sat.openPure (Sat.openTwo h);exact⟨r,q,h1,Sat.openMany h⟩
theorem Sat.closeLt {b r q:Nat}{c:ConfV}{t:LtS}{H:List SP}{w:World}(h1:Zls c t)(h:Sat w (blk b 139 [.int .i64 c.frame,.int .i64 c.epoch,.slice c.plans.a c.plans.l.length c.plans.c,.slice c.domains.a c.domains.l.length c.domains.c,.int .i64 t.plan,.slice (some ⟨r,0,none⟩) t.lv.length t.lv.length,.int .i64 t.askp,.slice (some ⟨q,0,none⟩) t.ask.length t.ask.length]::row (kE .i64) 3 (.slice (some ⟨r,0,none⟩) t.lv.length t.lv.length) t.lv::row (kE .i64) 3 (.slice (some ⟨q,0,none⟩) t.ask.length t.ask.length) t.ask::H)):Sat w (ltS b c t::H):=
 Sat.closeEx (r,q) (Sat.closeTwo (Sat.closePure h1 (Sat.closeMany (l:=[blk b 139 [.int .i64 c.frame,.int .i64 c.epoch,.slice c.plans.a c.plans.l.length c.plans.c,.slice c.domains.a c.domains.l.length c.domains.c,.int .i64 t.plan,.slice (some ⟨r,0,none⟩) t.lv.length t.lv.length,.int .i64 t.askp,.slice (some ⟨q,0,none⟩) t.ask.length t.ask.length],row (kE .i64) 3 (.slice (some ⟨r,0,none⟩) t.lv.length t.lv.length) t.lv,row (kE .i64) 3 (.slice (some ⟨q,0,none⟩) t.ask.length t.ask.length) t.ask]) h)))
theorem ZkP (H:List SP)(c:ConfV)(hc:c.domains.l.length≤1000):U1 42 #[cV c] H (ι:=Nat) (fun b=>vp b) fun b=>ltS b c (lt0 c.domains.l.length)::H:=by
 refine eG func42 16 ?_;refine Xq<|Xg 2<|Bx 1 (Xn 26 [vi c.frame,vi c.epoch,.slice c.plans.a c.plans.l.length c.plans.c,.slice c.domains.a c.domains.l.length c.domains.c] (some 1) (fun b=>vp b)) fun b1=>Be<|Xq<|Xg 4<|Bm [(⟨b1,3,none⟩,.slice c.domains.a c.domains.l.length c.domains.c)] (hasC (ba 0) Zaa)<|Xq<|Xy0 0 [] 10<|At' [0,1,4] [(⟨b1,0,none⟩,vi c.frame),(⟨b1,1,none⟩,vi c.epoch),(⟨b1,2,none⟩,.slice c.plans.a c.plans.l.length c.plans.c),(⟨b1,3,none⟩,.slice c.domains.a c.domains.l.length c.domains.c)] (hasC (ba 0) (hasC (ba 0) (hasC (ba 0) (hasC (ba 0) Zaa)))) ?_
 refine Xw 2 5 ?_ ?_
 ·refine Xh 2 (mkS (E:=(kE .i64)) (T:=3) 42 (.tmp 8) (.tmp 8) c.domains.l.length 0 (.int .i64 0) 8 (some 9) (fun _=>Kr) Kr Kr (fun _=>Kr) (fun _=>Kr) underlying42 Kr Kr rfl (by decide) (by omega)) (fun b2=>?_);exact At' [3] [] Zaa<|Xo 5 (mkS (E:=(kE .i64)) (T:=3) 42 (.tmp 11) (.tmp 11) c.domains.l.length 0 (.int .i64 0) 8 (some 12) (fun _=>Kr) Kr Kr (fun _=>Kr) (fun _=>Kr) underlying42 Kr Kr rfl (by decide) (by omega)) fun b3=>At' [6,7] [] Zaa<|Xo 8 (Xn 139 [vi c.frame,vi c.epoch,.slice c.plans.a c.plans.l.length c.plans.c,.slice c.domains.a c.domains.l.length c.domains.c,vi 0,.slice (s0 b2) c.domains.l.length c.domains.l.length,vi 0,.slice (s0 b3) c.domains.l.length c.domains.l.length] (some 15) (fun b=>vp b)) fun b4=>At' [9] [] Zaa<|Xd (Xv (Y0 (vp b4) fun w hs=>⟨b4,rfl,Sat.closeLt (r:=b2) (q:=b3) (c:=c) (t:=lt0 c.domains.l.length) ⟨by simp[lt0],by simp[lt0],hc⟩ (by simp only[lt0,List.length_replicate];exact Sat.erase 3 rfl (Sat.perm (List.Perm.cons _ (List.Perm.swap _ _ _)) hs))⟩))
 ·refine Xh 5 (mkS (E:=(kE .i64)) (T:=3) 42 (.tmp 11) (.tmp 11) c.domains.l.length 0 (.int .i64 0) 8 (some 12) (fun _=>Kr) Kr Kr (fun _=>Kr) (fun _=>Kr) underlying42 Kr Kr rfl (by decide) (by omega)) (fun b2=>?_);exact At' [6] [] Zaa<|Xo 2 (mkS (E:=(kE .i64)) (T:=3) 42 (.tmp 8) (.tmp 8) c.domains.l.length 0 (.int .i64 0) 8 (some 9) (fun _=>Kr) Kr Kr (fun _=>Kr) (fun _=>Kr) underlying42 Kr Kr rfl (by decide) (by omega)) fun b3=>At' [3,7] [] Zaa<|Xo 8 (Xn 139 [vi c.frame,vi c.epoch,.slice c.plans.a c.plans.l.length c.plans.c,.slice c.domains.a c.domains.l.length c.domains.c,vi 0,.slice (s0 b3) c.domains.l.length c.domains.l.length,vi 0,.slice (s0 b2) c.domains.l.length c.domains.l.length] (some 15) (fun b=>vp b)) fun b4=>At' [9] [] Zaa<|Xd (Xv (Y0 (vp b4) fun w hs=>⟨b4,rfl,Sat.closeLt (r:=b3) (q:=b2) (c:=c) (t:=lt0 c.domains.l.length) ⟨by simp[lt0],by simp[lt0],hc⟩ (by simp only[lt0,List.length_replicate];exact Sat.erase 3 rfl hs)⟩))
theorem ZiR (H:List SP)(b r q:Nat)(c:ConfV)(p ap:Int)(l al:List Int)(i:Int):U0 128 #[vp b,vi i] (blk b 139 [vi c.frame,vi c.epoch,.slice c.plans.a c.plans.l.length c.plans.c,.slice c.domains.a c.domains.l.length c.domains.c,vi p,.slice (some ⟨r,0,none⟩) l.length l.length,vi ap,.slice (some ⟨q,0,none⟩) al.length al.length]::row (kE .i64) 3 (.slice (some ⟨r,0,none⟩) l.length l.length) l::row (kE .i64) 3 (.slice (some ⟨q,0,none⟩) al.length al.length) al::H) (Zal (ZaW ⟨p,l,ap,al⟩ c.plans.l.length i).1) (blk b 139 [vi c.frame,vi c.epoch,.slice c.plans.a c.plans.l.length c.plans.c,.slice c.domains.a c.domains.l.length c.domains.c,vi p,.slice (some ⟨r,0,none⟩) l.length l.length,vi (ZaW ⟨p,l,ap,al⟩ c.plans.l.length i).2.askp,.slice (some ⟨q,0,none⟩) al.length al.length]::row (kE .i64) 3 (.slice (some ⟨r,0,none⟩) l.length l.length) l::row (kE .i64) 3 (.slice (some ⟨q,0,none⟩) al.length al.length) al::H):=by
 refine eG func128 23 ?_;refine Xq (Xg 1 (Ae 1 ?_));refine Xq (Xq (Xg 12 (Xr [(0,vp b),(1,vi i),(4,.nilIface),(7,.bool (decide (i<0)))] ?_ 9 3)));refine(Xs0 0 9 [(0,vp b),(1,vi i),(4,.nilIface),(16,.bool ((decide (i<0))||(decide (i≥(c.plans.l.length:Int)))))] ?_ ?_:RT _ _ _ _ _ _ 9 _)
 ·cases hg3:(decide (i<0))with
  |true=>
   refine Ae 9 ?_;exact mA ()
  |false=>
   refine Xm [(0,vp b),(1,vi i),(4,.nilIface),(16,.bool (decide (i≥(c.plans.l.length:Int))))] [(⟨b,2,none⟩,.slice c.plans.a c.plans.l.length c.plans.c)] (hasC (ba 0) Zaa) ?_ 9;refine Xp [(0,vp b),(1,vi i),(4,.nilIface),(16,.bool (false||(decide (i≥(c.plans.l.length:Int)))))] ?_;exact Zcm () rfl rfl
 refine endR ?_;cases hd:((decide (i<0))||(decide (i≥(c.plans.l.length:Int))))with
 |true=>
  have hd1:i<0∨(c.plans.l.length:Int)≤i:=by simp at hd;omega
  refine Xc true (fun _=>?_) (fun h=>by cases h);refine Xq (Xg 2 (Ae 2 ?_));refine Xv (Zab (Y0 (.iface 126 (vi 10)) (fun w hs=>?_)));exact⟨(),by rw[ZaW,if_pos hd1];rfl,by rw[ZaW,if_pos hd1];exact hs⟩
 |false=>
  have hd1:¬(i<0∨(c.plans.l.length:Int)≤i):=by simp at hd;omega
  refine Xc false (fun h=>by cases h) (fun _=>?_);refine Xk (Xq (Xg 6 (Ar ?_ 1 5)));refine Xs (Xz [(6,vi i)]) (fun _=>?_) 0;refine endR ?_;refine Xq (Xg 1 (Ae 1 ?_));refine Xv (Y0 (.nilIface) (fun w hs=>?_));exact⟨(),by rw[ZaW,if_neg hd1];rfl,by rw[ZaW,if_neg hd1];exact hs⟩
theorem ZiQ (H:List SP)(b r q:Nat)(c:ConfV)(p ap:Int)(l al:List Int):US 22 #[vp b] (blk b 139 [vi c.frame,vi c.epoch,.slice c.plans.a c.plans.l.length c.plans.c,.slice c.domains.a c.domains.l.length c.domains.c,vi p,.slice (s0 r) l.length l.length,vi ap,.slice (s0 q) al.length al.length]::row (kE .i64) 3 (.slice (s0 r) l.length l.length) l::row (kE .i64) 3 (.slice (s0 q) al.length al.length) al::H) (vi p):=by
 refine eG func22 8 ?_;exact Xq<|Xg 1<|Be<|Xq<|Xg 6<|Bm [(⟨b,4,none⟩,vi p)] (hasC (ba 0) Zaa)<|Xv (Y0 (vi p) fun w hs=>⟨(),rfl,hs⟩)
def ZaI (c:ConfV)(t:LtS)(d v:Int):Int×LtS:=if d<0∨(c.domains.l.length:Int)≤d then(13,t)else if v<0∨((((c.domains.l[d.toNat]?).map (·.release.l.length)).getD 0:Nat):Int)≤v then(10,t)else(0,{t with ask:=t.ask.set d.toNat v})
theorem ZiS (H:List SP)(b r q:Nat)(c:ConfV)(p ap:Int)(l al:List Int)(d v:Int)(hal:al.length=c.domains.l.length)(hk:KC H c):U0 126 #[vp b,vi d,vi v] (blk b 139 [vi c.frame,vi c.epoch,.slice c.plans.a c.plans.l.length c.plans.c,.slice c.domains.a c.domains.l.length c.domains.c,vi p,.slice (some ⟨r,0,none⟩) l.length l.length,vi ap,.slice (some ⟨q,0,none⟩) al.length al.length]::row (kE .i64) 3 (.slice (some ⟨r,0,none⟩) l.length l.length) l::row (kE .i64) 3 (.slice (some ⟨q,0,none⟩) al.length al.length) al::H) (Zal (ZaI c ⟨p,l,ap,al⟩ d v).1) (blk b 139 [vi c.frame,vi c.epoch,.slice c.plans.a c.plans.l.length c.plans.c,.slice c.domains.a c.domains.l.length c.domains.c,vi p,.slice (some ⟨r,0,none⟩) l.length l.length,vi ap,.slice (some ⟨q,0,none⟩) (ZaI c ⟨p,l,ap,al⟩ d v).2.ask.length (ZaI c ⟨p,l,ap,al⟩ d v).2.ask.length]::row (kE .i64) 3 (.slice (some ⟨r,0,none⟩) l.length l.length) l::row (kE .i64) 3 (.slice (some ⟨q,0,none⟩) (ZaI c ⟨p,l,ap,al⟩ d v).2.ask.length (ZaI c ⟨p,l,ap,al⟩ d v).2.ask.length) (ZaI c ⟨p,l,ap,al⟩ d v).2.ask::H):=by
 refine eG func126 47 ?_;refine Xq (Xg 1 (Ae 1 ?_));refine Xq (Xb 0 (Xq (Xg 13 (Xr [(0,vp b),(1,vi d),(2,vi v),(6,.nilIface),(10,.bool (decide (d<0)))] ?_ 10 3))));refine(Xs0 1 9 [(0,vp b),(1,vi d),(2,vi v),(6,.nilIface),(19,.bool ((decide (d<0))||(decide (d≥(c.domains.l.length:Int)))))] ?_ ?_:RT _ _ _ _ _ _ 10 _)
 ·cases hg3:(decide (d<0))with
  |true=>
   refine Ae 9 ?_;exact mA ()
  |false=>
   refine Xm [(0,vp b),(1,vi d),(2,vi v),(6,.nilIface),(19,.bool (decide (d≥(c.domains.l.length:Int))))] [(⟨b,3,none⟩,.slice c.domains.a c.domains.l.length c.domains.c)] (hasC (ba 0) Zaa) ?_ 9;refine Xp [(0,vp b),(1,vi d),(2,vi v),(6,.nilIface),(19,.bool (false||(decide (d≥(c.domains.l.length:Int)))))] ?_;exact Zcm () rfl rfl
 refine Xe [(0,vp b),(1,vi d),(2,vi v),(6,.nilIface),(7,.bool ((decide (d<0))||(decide (d≥(c.domains.l.length:Int)))))] ?_ 1;cases hd:((decide (d<0))||(decide (d≥(c.domains.l.length:Int))))with
 |true=>
  have hd1:d<0∨(c.domains.l.length:Int)≤d:=by simp at hd;omega
  refine Xc true (fun _=>?_) (fun h=>by cases h);refine Xq (Xg 2 (Ae 2 ?_));refine Xv (Zae (Zab (Y0 (.iface 126 (vi 13)) (fun w hs=>?_))));exact⟨(),by rw[ZaI,if_pos hd1];rfl,by rw[ZaI,if_pos hd1];exact hs⟩
 | false=>
  have hd1:¬(d<0∨(c.domains.l.length:Int)≤d):=by simp at hd;omega
  obtain⟨i,rfl⟩:∃i:Nat,d=(i:Int):=⟨d.toNat,by omega⟩
  have hil:i<c.domains.l.length:=by omega
  obtain⟨y,hy⟩:∃y,c.domains.l[i]? =some y:=⟨_,gEe hil⟩
  obtain⟨a,ha⟩:∃a,al[i]? =some a:=⟨_,gEe (by omega)⟩
  have he0:((((c.domains.l[(i:Int).toNat]?).map (·.release.l.length)).getD 0:Nat):Int)=(y.release.l.length:Int):=by rw[Int.toNat_natCast,hy];rfl
  have he:ZaI c ⟨p,l,ap,al⟩ (i:Int) v=if v<0∨(y.release.l.length:Int)≤v then(10,⟨p,l,ap,al⟩)else(0,⟨p,l,ap,al.set i v⟩):=by rw[ZaI,if_neg hd1,he0,Int.toNat_natCast]
  refine PT.know ((hk.domains).up.up.up.isSome ((by intro h0;rw[h0]at hil;simp at hil))) ?_;rintro⟨db,dd,hA⟩
  try rw[hA]
  refine Xc false (fun h=>by cases h) (fun _=>?_);refine Xq (Xg 17 (Xr [(0,vp b),(1,vi i),(2,vi v),(6,.nilIface),(24,.bool (decide (v<0)))] ?_ 14 3));refine(Xs0 1 13 [(0,vp b),(1,vi i),(2,vi v),(6,.nilIface),(37,.bool ((decide (v<0))||(decide (v≥(y.release.l.length:Int)))))] ?_ ?_:RT _ _ _ _ _ _ 14 _)
  ·cases hg3:(decide (v<0))with
   |true=>
    refine Ae 13 ?_;exact mA ()
   |false=>
    refine Xl [(0,vp b),(1,vi i),(2,vi v),(6,.nilIface),(24,.bool false),(25,vi v),(30,.slice (some ⟨db,dd,none⟩) c.domains.l.length c.domains.c),(31,vi i)] [(⟨b,3,none⟩,.slice (some ⟨db,dd,none⟩) c.domains.l.length c.domains.c)] (hasC (ba 0) Zaa) ?_ 6 7;refine Xs (Zav (Xi 24 (.tmp 30) (.tmp 31) db dd c.domains.l.length c.domains.c i 10 44 (i:Int) 32 underlying24)) (fun _=>?_) 5;refine Xm [(0,vp b),(1,vi i),(2,vi v),(6,.nilIface),(37,.bool (decide (v≥(y.release.l.length:Int))))] [(⟨db,dd+i*10+3,none⟩,.slice y.release.a y.release.l.length y.release.c)] (hasC (up (up (up (hk.domains.cell hA (i:=i) (x:=y) hy (j:=3) rfl)))) Zaa) ?_ 5;refine Xp [(0,vp b),(1,vi i),(2,vi v),(6,.nilIface),(37,.bool (false||(decide (v≥(y.release.l.length:Int)))))] ?_;exact Zcm () rfl rfl
  refine Xe [(0,vp b),(1,vi i),(2,vi v),(6,.nilIface),(21,.bool ((decide (v<0))||(decide (v≥(y.release.l.length:Int)))))] ?_ 1;cases hv:((decide (v<0))||(decide (v≥(y.release.l.length:Int))))with
  |true=>
   have hv1:v<0∨(y.release.l.length:Int)≤v:=by simp at hv;omega
   rw[if_pos hv1]at he;refine Xc true (fun _=>?_) (fun h=>by cases h);refine Xq (Xg 2 (Xe [(0,vp b),(1,vi i),(2,vi v),(6,.iface 126 (vi 10))] ?_ 2));refine Xv (Zae (Zab ?_))
   try rw[←hA]
   refine Y0 (.iface 126 (vi 10)) (fun w hs=>?_);exact⟨(),by rw[he];rfl,by rw[he];exact hs⟩
  |false=>
   have hv1:¬(v<0∨(y.release.l.length:Int)≤v):=by simp at hv;omega
   rw[if_neg hv1]at he;refine Xc false (fun h=>by cases h) (fun _=>?_);refine Xk (Xq (Xg 9 (Al [(⟨b,7,none⟩,.slice (some ⟨q,0,none⟩) al.length al.length)] (hasC (ba 0) Zaa) ?_ 2 7)));refine Xs (Zav (Xi 42 (.tmp 43) (.tmp 44) q 0 al.length al.length i 1 3 (i:Int) 46 underlying42)) (fun _=>?_) 1;refine Xh0 ?_ 2 1;refine Xs (ZdU (E:=(kE .i64)) (J:=i) (j:=0) a v (.int .i64 v) ⟨q,0+i*1,none⟩ (fun _=>Kr) (by first|rfl|simp) (ha) (rfl) (by decide)) (fun _=>?_) 0;refine endR ?_;refine Xq (Xg 1 (Xe [(6,.nilIface)] ?_ 1));refine Xv ?_
   try rw[←hA]
   refine Y0 (.nilIface) (fun w hs=>?_);exact⟨(),by rw[he];rfl,by rw[he];simp only[List.length_set];exact Sat.perm (.trans (.swap _ _ _) (.cons _ (.swap _ _ _))) hs⟩
theorem ZnM {l al:List Int}{u:Nat}{x:Int}(hl:al.length=l.length)(hx:al[u]? =some x):(al.take u++l.drop u).set u x=al.take (u+1)++l.drop (u+1):=by
 have hu:=(gSs hx).1;apply List.ext_getElem?;intro i;have e1:(al.take u).length=u:=by rw[List.length_take];omega
 have e2:(al.take (u+1)).length=u+1:=by rw[List.length_take];omega
 rw[List.getElem?_set];by_cases c:u=i
 ·subst c
  rw[if_pos rfl,if_pos (by simp;omega),List.getElem?_append_left (by omega),List.getElem?_take_of_lt (by omega),hx]
 ·rw[if_neg c]
  by_cases c2:i<u
  ·rw[List.getElem?_append_left (by omega),List.getElem?_append_left (by omega),List.getElem?_take_of_lt c2,List.getElem?_take_of_lt (by omega)]
  ·rw[List.getElem?_append_right (by omega),List.getElem?_append_right (by omega),e1,e2,List.getElem?_drop,List.getElem?_drop]
   congr 1;omega
theorem ZiP (H:List SP)(b r q:Nat)(c:ConfV)(p ap:Int)(n:Nat)(l al:List Int)(hl:l.length=n)(hal:al.length=n)(hn:n≤1000):U0 54 #[vp b] (blk b 139 [vi c.frame,vi c.epoch,.slice c.plans.a c.plans.l.length c.plans.c,.slice c.domains.a c.domains.l.length c.domains.c,vi p,.slice (s0 r) n n,vi ap,.slice (s0 q) n n]::row (kE .i64) 3 (.slice (s0 r) n n) l::row (kE .i64) 3 (.slice (s0 q) n n) al::H) (.tuple #[]) (blk b 139 [vi c.frame,vi c.epoch,.slice c.plans.a c.plans.l.length c.plans.c,.slice c.domains.a c.domains.l.length c.domains.c,vi ap,.slice (s0 r) n n,vi ap,.slice (s0 q) n n]::row (kE .i64) 3 (.slice (s0 r) n n) al::row (kE .i64) 3 (.slice (s0 q) n n) al::H):=by
 refine eG func54 37 ?_;refine ZcW 0 (fun(u:Nat)=> [(0,vp b),(2,vi u)]) (fun(u:Nat)=>(blk b 139 [vi c.frame,vi c.epoch,.slice c.plans.a c.plans.l.length c.plans.c,.slice c.domains.a c.domains.l.length c.domains.c,vi ap,.slice (s0 r) n n,vi ap,.slice (s0 q) n n]::row (kE .i64) 3 (.slice (s0 r) n n) (al.take u++l.drop u)::row (kE .i64) 3 (.slice (s0 q) n n) al::H)) (fun k (u:Nat)=>k+u=n) Kr Kr Kr Kr ?_ ?_
 ·rintro k u hku K hK;refine Xq<|Xg 8<|Bm [(⟨b,7,none⟩,.slice (s0 q) n n)] (hasC (ba 0) Zaa)<|Xc (decide ((u:Int)< (n:Int))) (fun h1=>?_) (fun h1=>?_)
  ·have hu:u<n:=by have:=of_decide_eq_true h1;omega
   obtain⟨x,hx⟩:∃x,al[u]? =some x:=⟨_,gEe (by omega)⟩
   have hse:=ZnM (hal.trans hl.symm) hx;obtain⟨y,hy⟩:∃y,(al.take u++l.drop u)[u]? =some y:=⟨_,gEe (by simp;omega)⟩
   refine Xq<|Xy0 0 [15] 16<|At' [0,1,2,3,4,5,6,7,8,9,10,11] [(⟨b,5,none⟩,.slice (s0 r) n n),(⟨b,7,none⟩,.slice (s0 q) n n)] (hasC (ba 0) (hasC (ba 0) Zaa))<|Xu 12 (Xi 42 (.tmp 30) (.tmp 31) q 0 n n u 1 3 (u:Int) 32 underlying42)<|Xt [13] [(0,vp b),(2,vi u),(24,.slice (s0 r) n n),(25,vi u),(33,vi x)] [(⟨q,0+u*1,none⟩,vi x)] (hasC (Zac (E:=kE .i64) (xs:=al) 2 rfl (x:=x) hx (j:=0) rfl) Zaa)<|Xu 14 (Xi 42 (.tmp 24) (.tmp 25) r 0 n n u 1 3 (u:Int) 34 underlying42)<|DT.pick 1 rfl<|Yo 15 (ZdU (E:=(kE .i64)) (J:=u) (j:=0) y x (.int .i64 x) ⟨r,0+u*1,none⟩ (fun _=>Kr) (by first|rfl|simp) (hy) (rfl) (by decide)) ?_;rw[show((al.take u++l.drop u).set u x)=(al.take (u+1)++l.drop (u+1))by exact hse];refine Xd (Xq (Xg 3 (Ce [(0,vp b),(2,vi (IntKind.i64.wrap ((u:Int)+1)))] ?_)));refine Zep 0 Kr Kr ?_;refine PT.pick 1 rfl ?_;rw[show IntKind.i64.wrap ((u:Int)+1)=((u+1:Nat):Int)by rw[IntKind.wrap_i64];omega];exact Xp _ (Zen (hK (k-1) (u+1) (by omega) (by omega)))
  ·have hu:u=n:=by have:=of_decide_eq_false h1;omega
   exact Xk (Y1 (.tuple #[]) fun w hs=>⟨(),rfl,by rw[List.take_of_length_le (show al.length≤u by omega),List.drop_eq_nil_of_le (show l.length≤u by omega),List.append_nil]at hs;exact hs⟩)
 ·intro K hK;refine Xq<|Xg 10<|Bl 1 9 [(⟨b,6,none⟩,vi ap)] (hasC (ba 0) Zaa)<|Bs 0 (Xz [(4,vi ap)])<|endR<|Xq<|Xg 1<|Be<|Xq ?_;refine ZcY Kr ?_;refine Xp [(0,vp b),(2,vi 0)] ?_;refine ZeC Kr (hK n 0 (by omega))
theorem Zhm {c:ConfV}{t:LtS}(h:Zls c t)(d v:Int):Zls c (ZaI c t d v).2:=by
 unfold ZaI;split
 ·exact h
 ·split
  ·exact h
  ·exact⟨h.1,by simp only[List.length_set];exact h.2.1,h.2.2⟩
theorem Zhl {c:ConfV}{t:LtS}(h:Zls c t)(n:Nat)(i:Int):Zls c (ZaW t n i).2:=by
 unfold ZaW;split<;>exact h
section
variable (H :List SP)(b:Nat)(c:ConfV)(t:LtS)
theorem Zoo (i:Int):U0 128 #[vp b,vi i] (ltS b c t::H) (Zal (ZaW t c.plans.l.length i).1) (ltS b c (ZaW t c.plans.l.length i).2::H):=fun w hs=>by
 obtain⟨r,q,h1,hs⟩:=Sat.openLt hs;refine(ZiR H b r q c t.plan t.askp t.lv t.ask i w hs).mono fun e w' ⟨_,he,hx⟩=>⟨(),he,Sat.closeLt (r:=r) (q:=q) (Zhl h1 _ i) ?_⟩
 have e1:(ZaW t c.plans.l.length i).2.plan=t.plan∧(ZaW t c.plans.l.length i).2.lv=t.lv∧(ZaW t c.plans.l.length i).2.ask=t.ask:=by unfold ZaW;split<;>exact⟨rfl,rfl,rfl⟩
 rw[e1.1,e1.2.1,e1.2.2];exact hx
theorem Zop (d v:Int)(hk:KC H c):U0 126 #[vp b,vi d,vi v] (ltS b c t::H) (Zal (ZaI c t d v).1) (ltS b c (ZaI c t d v).2::H):=fun w hs=>by
 obtain⟨r,q,h1,hs⟩:=Sat.openLt hs;refine(ZiS H b r q c t.plan t.askp t.lv t.ask d v h1.2.1 hk w hs).mono fun e w' ⟨_,he,hx⟩=>⟨(),he,Sat.closeLt (r:=r) (q:=q) (Zhm h1 d v) ?_⟩
 have e1:(ZaI c t d v).2.plan=t.plan∧(ZaI c t d v).2.lv=t.lv∧(ZaI c t d v).2.askp=t.askp:=by
  unfold ZaI;split
  ·exact⟨rfl,rfl,rfl⟩
  ·split<;>exact⟨rfl,rfl,rfl⟩
 rw[e1.1,e1.2.1,e1.2.2];exact hx
theorem Zom :U0 54 #[vp b] (ltS b c t::H) (.tuple #[]) (ltS b c (Zdv t)::H):=fun w hs=>by
 obtain⟨r,q,h1,hs⟩:=Sat.openLt hs;have e1:t.ask.length=t.lv.length:=h1.2.1.trans h1.1.symm;rw[e1]at hs;refine(ZiP H b r q c t.plan t.askp t.lv.length t.lv t.ask rfl e1 (by rw[h1.1];exact h1.2.2) w hs).mono fun e w' ⟨_,he,hx⟩=>⟨(),he,Sat.closeLt (r:=r) (q:=q) (t:=Zdv t) ⟨h1.2.1,h1.2.1,h1.2.2⟩ ?_⟩
 simp only[Zdv,e1];exact hx
theorem Zon :US 22 #[vp b] (ltS b c t::H) (vi t.plan):=fun w hs=>by
 obtain⟨r,q,h1,hs⟩:=Sat.openLt hs;exact(ZiQ H b r q c t.plan t.askp t.lv t.ask w hs).mono fun e w' ⟨_,he,hx⟩=>⟨(),he,Sat.closeLt h1 hx⟩
end
end Go.Proofs.YtfhkgohokbkgiaaGreatDoor
namespace Go.Proofs.YtfhkgohokbkgiaaGreatDoor
open Go.RowKit
def reE :Enc (Int×Int×Int×Int):=⟨4,by decide,fun p=> [.int .i64 p.1,.int .i64 p.2.1,.int .i64 p.2.2.1,.int .i64 p.2.2.2],fun _=>rfl,by intro a u hu;simp at hu;rcases hu with rfl|rfl|rfl|rfl<;>rfl⟩
theorem Zpr :(Tryz.prog.info? 48).map (fun i=>(i.zero,i.size,i.bytes))=some (some (.agg #[.int .i64 0,.int .i64 0,.int .i64 0,.int .i64 0]),4,32):=by kernel_rfl
theorem Zi9 :Ety Tryz.prog reE 48 (.agg #[.int .i64 0,.int .i64 0,.int .i64 0,.int .i64 0]):=by
 obtain⟨i,hi,hz,hs,hb⟩:=info_parts Zpr;exact⟨⟨i,hi,hz,hs,by omega⟩,rfl⟩
theorem Zf5 (n:Nat):∀u∈(Builtin.zeroCells (Value.agg #[.int .i64 0,.int .i64 0,.int .i64 0,.int .i64 0]).cells n).toList,u.oneCell'=true:=by
 intro u hu;simp only[Builtin.zeroCells,Value.cells,List.size_toArray,List.length_cons,List.length_nil,Array.toList_map,List.mem_map]at hu;obtain⟨k,_,rfl⟩:=hu;rcases(show k%4=0∨k%4=1∨k%4=2∨k%4=3 by omega)with h|h|h|h<;>simp[h,Value.oneCell']
theorem Znc (w :World) (b o c n:Nat) (cur:Array Value) (xs zs:List (Int×Int×Int×Int)) (i:Nat) (hz:zs=xs.take i++xs.drop (i+1)) (hx:xs.length=n) (hb:w.heap[b]? =some (.cells cur 48 (0,0))) (hc1:n≤c) (hc2:c≤maxLen) (hc3:o+c*4≤cur.size) (hcur:(cur.toList.drop o).take (n*4)=reE.flat xs)
    (hi:i<n) (hn:n≤1000000000):
    Calls Tryz.prog 93 #[.slice (some ⟨b,o,none⟩) n c,.int .i64 i,.int .i64 (i+1)] w (ZaO reE 48 (ZbN b) w zs):=by
  have hne:((i:Int)==(i:Int)+1)=false:=by simp;omega
  have hlen:cur.toList.length=cur.size:=by simp
  have hrow:Row reE 48 w.drew (ZbN b) (.slice (some ⟨b,o,none⟩) (xs.take i).length c) (xs.take i):=by
    refine .inr ⟨b,o,c,cur,rfl,rfl,hb,by simp;omega,hc2,hc3,?_⟩;rw[List.length_take,hx,Nat.min_eq_left (by omega)];rw[←reE.flat_take,←hcur,List.take_take];congr 1;show i*4=min (i*4) (n*4);omega
  have hil:(xs.take i).length=i:=by rw[List.length_take,hx];omega
  have hdl:(xs.drop (i+1)).length=n- (i+1):=by rw[List.length_drop,hx]
  have hcell:∀j u,(reE.flat (xs.drop (i+1)))[j]? =some u→w.drew.cell? ⟨b,o+(i+1)*4+j,none⟩=some u:=by
    intro j u hu;rw[cell_of_row w.drew b _ cur 48 (0,0) hb];rw[←reE.flat_drop,←hcur]at hu;rw[List.getElem?_drop,List.getElem?_take]at hu;split at hu
    · rw[List.getElem?_drop]at hu
      rw[←Array.getElem?_toList,←hu];show _=cur.toList[o+((i+1)*4+j)]?;congr 1;omega
    · cases hu
  have hap:∀(X:Option Addr) (m dc:Nat),m=n- (i+1)→(¬c=i+1→X=some ⟨b,o+(i+1)*4,none⟩∧dc=c- (i+1))→(c=i+1→X=some ⟨b,o,none⟩∧dc=0)→∃cur1,cur1.size=cur.size∧(cur1.toList.drop o).take ((n-1)*4)=reE.flat zs∧
      (Builtin.append_ #[36,36] 36 #[.slice (some ⟨b,o,none⟩) i c,.slice X m dc]).run Tryz.prog w.drew= .ok (.slice (some ⟨b,o,none⟩) (n-1) c) (w.drew.setRow b cur1):=by
    intro X m dc hm hX1 hX2;subst hm;obtain⟨ii,hii,hzz,hss,hbb⟩:=info_parts Zpr;have hfl:(reE.flat (xs.drop (i+1))).length=(n- (i+1))*4:=by rw[reE.flat_length,hdl];rfl
    have hfl0:(reE.flat (xs.take i)).length=i*4:=by rw[reE.flat_length,hil];rfl
    have hf:(Builtin.firstCells 4 (n- (i+1)) (.slice X (n- (i+1)) dc)).run Tryz.prog w.drew= .ok (reE.flat (xs.drop (i+1))).toArray w.drew:=by
      by_cases hcc:c=i+1
      · obtain⟨rfl,rfl⟩:=hX2 hcc
        have e0:n- (i+1)=0:=by omega
        rw[e0]at hfl ⊢;have:reE.flat (xs.drop (i+1))=[]:=List.eq_nil_of_length_eq_zero (by simpa using hfl);rw[this];exact run_firstCells_some (P:=Tryz.prog) w.drew 4 0 _ _ _ [] rfl (by intro j u h;simp at h)
      · obtain⟨rfl,rfl⟩:=hX1 hcc
        exact run_firstCells_some (P:=Tryz.prog) w.drew 4 _ _ _ _ _ hfl (fun j u hu=>by rw[Addr.add_lit];exact hcell j u hu)
    have hst:=run_storeCells_at Tryz.prog b (o+i*4) 48 (reE.flat (xs.drop (i+1))) 0 cur w.drew hb (by rw[hfl];omega) (reE.flat_one' _);simp only[Nat.add_zero]at hst;refine⟨(cur.toList.take (o+i*4)++reE.flat (xs.drop (i+1))++cur.toList.drop (o+i*4+(reE.flat (xs.drop (i+1))).length)).toArray,?_,?_,?_⟩
    rotate_left 2
    · have hroom:i+(n- (i+1))≤c:=by omega
      have e1:i+(n- (i+1))=n-1:=by omega
      simp[Builtin.append_,run_underlying Tryz.underlying36,sizeOf,typeInfo,hii,hss,Builtin.lenOf,hf,Addr.add_lit,hst,e1];intro h;omega
    · simp only[List.size_toArray,List.length_append,List.length_take,List.length_drop,hlen,hfl];omega
    · have htm:=Zdj cur.toList o (i*4) (reE.flat (xs.drop (i+1))).length (reE.flat (xs.drop (i+1))) rfl (by rw[hlen,hfl];omega)
      have e2:(n-1)*4=i*4+(reE.flat (xs.drop (i+1))).length:=by rw[hfl];omega
      rw[e2];show List.take _ (List.drop o (List.take (o+i*4) cur.toList++reE.flat (xs.drop (i+1))++List.drop (o+i*4+(reE.flat (xs.drop (i+1))).length) cur.toList))=_;rw[htm,hz,Enc.flat_append];congr 1;rw[←reE.flat_take,←hcur,List.take_take];congr 1;show i*4=min (i*4) (n*4);omega
  have hclr:∀cur1:Array Value,cur1.size=cur.size→(cur1.toList.drop o).take ((n-1)*4)=reE.flat zs→∃cur2,(∀dc,(Builtin.clear_ #[36] 0 #[.slice (some ⟨b,o+(n-1)*4,none⟩) 1 dc]).run Tryz.prog (w.drew.setRow b cur1)= .ok (.tuple #[]) ((w.drew.setRow b cur1).setRow b cur2))∧
      ZaO reE 48 (ZbN b) w zs (.returned (.slice (some ⟨b,o,none⟩) (n-1) c)) ((w.drew.setRow b cur1).setRow b cur2):=by
    intro cur1 hs1 ht1;have hb1:(w.drew.setRow b cur1).heap[b]? =some (.cells cur1 48 (0,0)):=setRow_heap w.drew b cur cur1 _ _ hb;have hl1:cur1.toList.length=cur.size:=by simp[hs1]
    have hzl:(Builtin.zeroCells (Value.agg #[.int .i64 0,.int .i64 0,.int .i64 0,.int .i64 0]).cells 1).toList.length=4:=by rw[Array.length_toList,size_zeroCells];rfl
    refine⟨_,fun dc=>ZbK (P:=Tryz.prog) Tryz.underlying36 Zi9 hb1 (by omega) (by rw[hs1];show _+1*4≤_;omega) (Zf5 1),?_⟩;refine⟨_,ZbN b,rfl,.inr ⟨b,o,c,_,?_,rfl,setRow_heap _ b cur1 _ _ _ hb1,?_,hc2,?_,?_⟩,⟨rfl,rfl,rfl,by simp[World.setRow],fun k _ hk=>(setRow_other _ b k _ (fun e=>hk e)).trans (setRow_other w.drew b k _ (fun e=>hk e))⟩,fun b hb=> .inl hb⟩
    · congr 1;rw[hz];simp;omega
    · rw[hz];simp;omega
    · simp only[List.size_toArray,List.length_append,List.length_take,List.length_drop,hl1,hzl]
      show o+c*4≤_+(_- (_+1*4));omega
    · have hzn:zs.length=n-1:=by rw[hz];simp;omega
      rw[hzn,←ht1];show List.take ((n-1)*4) (List.drop o (List.take (o+(n-1)*4) cur1.toList++(Builtin.zeroCells (Value.agg #[.int .i64 0,.int .i64 0,.int .i64 0,.int .i64 0]).cells 1).toList++List.drop (o+(n-1)*4+1*4) cur1.toList))=_;rw[List.append_assoc,List.drop_append,List.length_take,hl1,show o-min (o+(n-1)*4) cur.size=0 by omega,List.drop_zero,List.drop_take];have e3:o+(n-1)*4-o=(n-1)*4:=by omega
      rw[e3];exact List.take_left' (by simp only[List.length_take,List.length_drop,hl1];omega)
  have HAP:=Lib.hid hap;have HCL:=Lib.hid hclr;clear hap hclr hrow hil hdl hcell hcur hb hx hz hlen hc3;have hb2:¬(c=i):=by omega
  have hb3:¬(c=n-1):=by omega
  have hb4:i+1≤n:=by omega
  have hb5:(0:Int)≤(i:Int)+1:=by omega
  have hw1:IntKind.i64.wrap ((i:Int)+1)=(i:Int)+1:=by rw[IntKind.wrap_i64];omega
  have htn:((i:Int)+1).toNat=i+1:=by omega
  have hb6:n- (n-1)=1:=by omega
  have hb7:i≤n:=by omega
  have hb8:n-1≤n:=by omega
  have hb9:i≤c:=by omega
  have hb11:(i:Int)+1≤(n:Int):=by omega
  have hb10:(i:Int)≤(i:Int)+1:=by omega
  by_cases hcc:c=i+1
  · subst hcc
    obtain⟨cur1,hs1,ht1,hr1⟩:=HAP.out (some ⟨b,o,none⟩) 0 0 (by omega) (by intro h;exact absurd rfl h) (by intro _;exact⟨rfl,rfl⟩);obtain⟨cur2,hr2,hp0⟩:=HCL.out cur1 hs1 ht1;have hp:=Lib.hid hp0;have HR:=Lib.hid hr1;clear hs1 ht1 hp0 hr1 HAP HCL
    go_enter Tryz.func93,Tryz.ntmps93
    go_wp2
    go_region_law (refine ZaQ rfl _ _ _ _ rfl (by simp[Act.eval,Act.put]) (by simp[Act.eval,Act.put]) HR.out ?_)
    go_wp2
    go_ret
    exact hp.out
  · obtain⟨cur1,hs1,ht1,hr1⟩:=HAP.out (some ⟨b,o+(i+1)*4,none⟩) (n- (i+1)) (c- (i+1)) rfl (by intro _;exact⟨rfl,rfl⟩) (by intro h;exact absurd h hcc)
    obtain⟨cur2,hr2,hp0⟩:=HCL.out cur1 hs1 ht1;have hp:=Lib.hid hp0;have HR:=Lib.hid hr1;clear hs1 ht1 hp0 hr1 HAP HCL
    go_enter Tryz.func93,Tryz.ntmps93
    go_wp2
    go_region_law (refine ZaQ rfl _ _ _ _ rfl (by simp[Act.eval,Act.put]) (by simp[Act.eval,Act.put]) HR.out ?_)
    go_wp2
    go_ret
    exact hp.out
theorem Zsb (w:World)(F:Nat→Prop)(v:Value)(xs:List (Int×Int×Int×Int))(hrow:Row reE 48 w F v xs)(i:Nat)(hi:i<xs.length)(hn:xs.length≤1000000000):
  Calls Tryz.prog 93 #[v,.int .i64 i,.int .i64 (i+1)] w (ZaO reE 48 F w (xs.take i++xs.drop (i+1))):=by
 rcases hrow with⟨rfl,rfl,rfl⟩|⟨b,o,c,cur,rfl,rfl,hb,hc1,hc2,hc3,hcur⟩
 ·simp at hi
 ·exact Znc w b o c _ cur xs _ i rfl rfl hb hc1 hc2 hc3 hcur hi hn
end Go.Proofs.YtfhkgohokbkgiaaGreatDoor
namespace Go.Proofs.YtfhkgohokbkgiaaGreatDoor
open Go.RowKit G Tryz
def rgS (b:Nat)(r:RgS):SP:=exS fun p:AN=>two (Zcl (RgOk r)) (two (blk b 178 [.slice p.1 r.l.length p.2,.int .i64 r.room,.int .i64 r.last]) (row reE 48 (.slice p.1 r.l.length p.2) r.l))
theorem Sat.openRg {b:Nat}{r:RgS}{H:List SP}{w:World}(h:Sat w (rgS b r::H)):∃A cap,RgOk r∧Sat w (blk b 178 [.slice A r.l.length cap,.int .i64 r.room,.int .i64 r.last]::row reE 48 (.slice A r.l.length cap) r.l::H):=by
 obtain⟨⟨A,cap⟩,h⟩:=Sat.openEx h;obtain⟨h1,h⟩:=Sat.openPure (Sat.openTwo h);exact⟨A,cap,h1,Sat.openTwo h⟩
theorem Sat.closeRg {b:Nat}{r:RgS}{H:List SP}{w:World}{A:Option Addr}{cap:Nat}(h1:RgOk r)(h:Sat w (blk b 178 [.slice A r.l.length cap,.int .i64 r.room,.int .i64 r.last]::row reE 48 (.slice A r.l.length cap) r.l::H)):Sat w (rgS b r::H):=
 Sat.closeEx (A,cap) (Sat.closeTwo (Sat.closePure h1 (Sat.closeTwo h)))
theorem Zjb (H:List SP)(v:Value)(xs:List Rec)(i:Nat)(hi:i<xs.length)(hn:xs.length≤1000000000):
  ∀w,Sat w (row reE 48 v xs::H)→Calls Tryz.prog 93 #[v,.int .i64 i,.int .i64 ((i:Int)+1)] w (Ret (ι:=AN) (fun p=> .slice p.1 (xs.take i++xs.drop (i+1)).length p.2) fun p=>row reE 48 (.slice p.1 (xs.take i++xs.drop (i+1)).length p.2) (xs.take i++xs.drop (i+1))::H):=
 Ze0 fun w F hr _=>Zsb w F v xs hr i hi hn
theorem Zky (H:List SP)(m:Int):U1 44 #[vi m] H (ι:=Nat) (fun b=>vp b) fun b=>rgS b (rg0 m)::H:=by
 refine eG func44 8 ?_;exact Xq<|Xg 1<|Be<|Xq<|Xg 6<|Br 2 4<|Bx 1 (Xn 178 [.slice none 0 0,vi (mnI (mxI m 1) 16),vi 0] (some 7) (fun b=>vp b)) fun b1=>Be<|Xv (Y0 (vp b1) fun w hs=>⟨b1,rfl,Sat.closeRg (r:=rg0 m) (A:=none) (cap:=0) (Zpf m) (SatF.swap (Sat.rowNil hs))⟩)
theorem ZkA (H:List SP)(b:Nat)(A:Option Addr)(cap:Nat)(l:List Rec)(m n:Int)(t op cd:Int)(hl:l.length≤1000000):U1 51 #[vp b,vi t,vi op,vi cd] (blk b 178 [.slice A l.length cap,vi m,vi n]::row reE 48 (.slice A l.length cap) l::H) (ι:=AN) (fun _=> .tuple #[]) fun x=>blk b 178 [.slice x.1 (ZbT ⟨l,m,n⟩ t op cd).l.length x.2,vi m,vi (IntKind.i64.wrap (n+1))]::row reE 48 (.slice x.1 (ZbT ⟨l,m,n⟩ t op cd).l.length x.2) (ZbT ⟨l,m,n⟩ t op cd).l::H:=by
 refine eG func51 50 ?_;refine Xq<|Xg 8<|Bl 1 7 [(⟨b,2,none⟩,vi n)] (hasC (ba 0) Zaa)<|Bs 0 (Xz [(2,vi (IntKind.i64.wrap (n+1)))])<|endR<|Xq<|PT.pick 1 rfl<|Xy0 1 [17] 18<|At' [0,1,2,3,4,5,6,7,8,9,10,11,12] [(⟨b,0,none⟩,.slice A l.length cap),(⟨b,2,none⟩,vi (IntKind.i64.wrap (n+1)))] (hasC (ba 0) (hasC (ba 0) Zaa))<|Xo 13 (Xn 48 [vi (IntKind.i64.wrap (n+1)),vi t,vi op,vi cd] (some 28) (fun b=> .slice (s0 b) 1 1)) fun b1=>DT.pick 1 rfl<|Xo 14 (Xf (E:=reE) 36 (.tmp 19) (.tmp 28) A cap l [(IntKind.i64.wrap (n+1),t,op,cd)] (.slice (s0 b1) 1 1) 29 underlying36 (Zi9) (Zbr (x:=(IntKind.i64.wrap (n+1),t,op,cd)) 1 rfl) (by simp only[List.length_cons,List.length_nil];omega)) fun r2=>At' [15,16] [] Zaa<|DT.pick 2 rfl<|Yo 17 (Xz [(0,.slice r2.1 ((l++[(IntKind.i64.wrap (n+1),t,op,cd)]).length) r2.2)])<|Xd<|Xq<|Xy0 0 [] 10<|At' [0,1,2,3,4,5,6,7,8,9] [(⟨b,0,none⟩,.slice r2.1 ((l++[(IntKind.i64.wrap (n+1),t,op,cd)]).length) r2.2),(⟨b,1,none⟩,vi m)] (hasC (ba 0) (hasC (ba 0) Zaa))<|Xd (Xc (decide (((l++[(IntKind.i64.wrap (n+1),t,op,cd)]).length:Int)>m)) (fun h1=>?_) (fun h1=>?_))
 ·have h1':=of_decide_eq_true h1;have hrl:(l++[(IntKind.i64.wrap (n+1),t,op,cd)]).length=l.length+1:=by simp
  have hd:(l++[(IntKind.i64.wrap (n+1),t,op,cd)]).take 0++(l++[(IntKind.i64.wrap (n+1),t,op,cd)]).drop (0+1)=(ZbT ⟨l,m,n⟩ t op cd).l:=by rw[ZbT,Zey];dsimp only;rw[if_pos h1'];rfl
  refine Xg 9<|Bl 4 5 [(⟨b,0,none⟩,.slice r2.1 ((l++[(IntKind.i64.wrap (n+1),t,op,cd)]).length) r2.2)] (hasC (ba 0) Zaa)<|Xh0 ?_ 1 4;refine Bx 3 (Xa (some 47) _ ((hd▸Zjb (blk b 178 [.slice r2.1 ((l++[(IntKind.i64.wrap (n+1),t,op,cd)]).length) r2.2,.int .i64 m,.int .i64 (IntKind.i64.wrap (n+1))]::blk b1 48 [.int .i64 (IntKind.i64.wrap (n+1)),.int .i64 t,.int .i64 op,.int .i64 cd]::H) (.slice r2.1 (l++[(IntKind.i64.wrap (n+1),t,op,cd)]).length r2.2) (l++[(IntKind.i64.wrap (n+1),t,op,cd)]) 0 (by omega) (by omega)))) fun(r:AN)=>Br 1 2<|Xh0 ?_ 1 1
  refine Bs 0 (Xz [(0,.slice r.1 ((ZbT ⟨l,m,n⟩ t op cd).l.length) r.2)])<|endR<|Y1 (.tuple #[]) (fun w hs=>?_);exact⟨r,rfl,Sat.erase 2 rfl hs⟩
 ·have h1':=of_decide_eq_false h1;exact Xk (Y1 (.tuple #[]) fun w hs=>⟨r2,rfl,by rw[ZbT,Zey];dsimp only;rw[if_neg h1'];exact Sat.erase 2 rfl hs⟩)
theorem Zqd (H:List SP)(b:Nat)(r:RgS)(t op cd:Int):U0 51 #[vp b,vi t,vi op,vi cd] (rgS b r::H) (.tuple #[]) (rgS b (ZbT r t op cd)::H):=fun w hs=>by
 obtain⟨A,cap,h1,hs⟩:=Sat.openRg hs;exact(ZkA H b A cap r.l r.room r.last t op cd (by have:=h1.len;have:=h1.room;omega) w hs).mono fun e w' ⟨x,he,hx⟩=>⟨(),he,Sat.closeRg (ZjA h1 t op cd) hx⟩
def Zar (r:RgS)(seq:Int):Rec×Bool:=match Zg7 r seq with|none=>((0,0,0,0),false)|some x=>(x,true)
theorem Zd9 {p:Rec→Bool}{l:List Rec}{u:Nat}(h:∀j x,j<u→l[j]? =some x→p x=false):l.find? p=(l.drop u).find? p:=by
 induction u generalizing l with
 |zero=>rfl
 | succ u ih=>
  cases l with
  |nil=>rfl
  |cons a l=>
   rw[List.find?_cons,h 0 a (by omega) rfl];exact ih fun j x hj hx=>h (j+1) x (by omega) (by simpa using hx)
theorem ZiC (H:List SP)(b:Nat)(A:Option Addr)(cap:Nat)(l:List Rec)(m n:Int)(q:Int)(hl:l.length≤1000000):US 120 #[vp b,vi q] (blk b 178 [.slice A l.length cap,vi m,vi n]::row reE 48 (.slice A l.length cap) l::H) (.tuple #[.agg #[vi (Zar ⟨l,m,n⟩ q).1.1,vi (Zar ⟨l,m,n⟩ q).1.2.1,vi (Zar ⟨l,m,n⟩ q).1.2.2.1,vi (Zar ⟨l,m,n⟩ q).1.2.2.2],.bool (Zar ⟨l,m,n⟩ q).2]):=by
 refine eG func120 34 ?_;refine Xq<|Xg 2<|Bx 1 (Xn 48 [vi 0,vi 0,vi 0,vi 0] (some 4) (fun b=>vp b)) fun b1=>Be ?_
 refine ZcW 0 (fun(u:Nat)=> [(4,vp b1),(0,vp b),(1,vi q),(6,vi u)]) (fun _=>(blk b1 48 [vi 0,vi 0,vi 0,vi 0]::blk b 178 [.slice A l.length cap,vi m,vi n]::row reE 48 (.slice A l.length cap) l::H)) (fun k (u:Nat)=>k+u=l.length∧∀j x,j<u→l[j]? =some x→decide (q≤x.1)=false) Kr Kr Kr Kr ?_ ?_
 ·rintro k u ⟨hku,hno⟩ K hK;refine Xq<|Xq<|Xg 7<|Cm [(4,vp b1),(0,vp b),(1,vi q),(6,vi u),(13,.bool ((u:Int)==(l.length:Int)))] [(⟨b,0,none⟩,.slice A l.length cap)] (hasC (ba 1) Zaa)<|Xc ((u:Int)==(l.length:Int)) (fun h1=>?_) (fun h1=>?_)
  ·have hu0:(u:Int)=(l.length:Int):=eq_of_beq h1;have hu:u=l.length:=by omega
   have hg:Zar ⟨l,m,n⟩ q=((0,0,0,0),false):=by rw[Zar,Zg7,Zd9 hno,hu,List.drop_length];rfl
   refine Xq<|Xg 3<|Br 2 1<|Bs 1 (Xz [(0,vi 0),(1,vi 0),(2,vi 0),(3,vi 0)])<|Be<|Xv<|Zab<|ZcR<|dB 0 (.tuple #[.agg #[.int .i64 0,.int .i64 0,.int .i64 0,.int .i64 0],.bool false]) (fun w hs=>?_);exact⟨(),by rw[hg],hs.tail⟩
  ·have hu0:¬(u:Int)=(l.length:Int):=beq_eq_false_iff_ne.1 h1;have hu:u<l.length:=by omega
   obtain⟨e,he⟩:∃e,l[u]? =some e:=⟨_,by simp[hu];rfl⟩
   refine PT.know (KR.isSome (s:=⟨A,cap,l⟩) (Zad 2 rfl) (List.ne_nil_of_length_pos (by show 0<l.length;omega))) ?_;rintro⟨sb,so,hA⟩;dsimp only at hA;subst hA;refine Xk<|Xq<|Xq<|Xg 10<|Bl 5 5 [(⟨b,0,none⟩,.slice (sA sb so) l.length cap)] (hasC (ba 1) Zaa)<|Bs 4 (Zav (Xi 36 (.tmp 18) (.tmp 19) sb so l.length cap u 4 48 (u:Int) 20 underlying36))<|Bm [(⟨sb,so+u*4,none⟩,vi e.1)] (hasC ((Zad (xs:=l) (A:=some ⟨sb,so,none⟩) (k:=cap) (E:=reE) (T:=48) 2 rfl).cell rfl (i:=u) (x:=e) he (j:=0) rfl) Zaa)<|Xc (decide (e.1≥q)) (fun h2=>?_) (fun h2=>?_)
   ·have hg:Zar ⟨l,m,n⟩ q=(e,true):=by rw[Zar,Zg7,Zd9 hno,←List.getElem_cons_drop hu,List.find?_cons,(gSs he).2,show decide (q≤e.1)=true by simpa using h2]
    refine Xq<|Xg 9<|Bl 4 5 [(⟨b,0,none⟩,.slice (sA sb so) l.length cap)] (hasC (ba 1) Zaa)<|Bs 3 (Zav (Xi 36 (.tmp 28) (.tmp 29) sb so l.length cap u 4 48 (u:Int) 30 underlying36))<|Bl 2 1 [(⟨sb,so+u*4,none⟩,vi e.1),(⟨sb,so+u*4+1,none⟩,vi e.2.1),(⟨sb,so+u*4+2,none⟩,vi e.2.2.1),(⟨sb,so+u*4+3,none⟩,vi e.2.2.2)] (hasC ((Zad (xs:=l) (A:=some ⟨sb,so,none⟩) (k:=cap) (E:=reE) (T:=48) 2 rfl).cell rfl (i:=u) (x:=e) he (j:=0) rfl) (hasC ((Zad (xs:=l) (A:=some ⟨sb,so,none⟩) (k:=cap) (E:=reE) (T:=48) 2 rfl).cell rfl (i:=u) (x:=e) he (j:=1) rfl) (hasC ((Zad (xs:=l) (A:=some ⟨sb,so,none⟩) (k:=cap) (E:=reE) (T:=48) 2 rfl).cell rfl (i:=u) (x:=e) he (j:=2) rfl) (hasC ((Zad (xs:=l) (A:=some ⟨sb,so,none⟩) (k:=cap) (E:=reE) (T:=48) 2 rfl).cell rfl (i:=u) (x:=e) he (j:=3) rfl) Zaa))))<|Bs 1 (Xz [(0,vi e.1),(1,vi e.2.1),(2,vi e.2.2.1),(3,vi e.2.2.2)])<|Be<|Xv<|Zab<|ZcR<|dB 0 (.tuple #[.agg #[.int .i64 e.1,.int .i64 e.2.1,.int .i64 e.2.2.1,.int .i64 e.2.2.2],.bool true]) (fun w hs=>?_);exact⟨(),by rw[hg],hs.tail⟩
   ·refine Xk (Xq (Xg 3 (Ce [(4,vp b1),(0,vp b),(1,vi q),(6,vi (IntKind.i64.wrap ((u:Int)+1)))] ?_)));refine Zep 0 Kr Kr ?_;rw[show IntKind.i64.wrap ((u:Int)+1)=((u+1:Nat):Int)by rw[IntKind.wrap_i64];omega];have hno2:∀v e,v<u+1→l[v]? =some e→decide (q≤e.1)=false:=by
     intro v e' hv hv2;by_cases c:v=u
     ·subst c;rw[he]at hv2;cases hv2;simpa using h2
     ·exact hno v e' (by omega) hv2
    exact Xp _ (Zen (hK (k-1) (u+1) (by omega) ⟨by omega,hno2⟩))
 ·intro K hK;refine Xq<|Xg 1<|Be<|Xq ?_;refine ZcY Kr ?_;refine Xp [(4,vp b1),(0,vp b),(1,vi q),(6,vi 0)] ?_;refine ZeC Kr (hK l.length 0 ⟨by omega,fun v e hv=>by omega⟩)
theorem Zoa (H:List SP)(b:Nat)(r:RgS)(q:Int):US 120 #[vp b,vi q] (rgS b r::H) (.tuple #[.agg #[vi (Zar r q).1.1,vi (Zar r q).1.2.1,vi (Zar r q).1.2.2.1,vi (Zar r q).1.2.2.2],.bool (Zar r q).2]):=fun w hs=>by
 obtain⟨A,cap,h1,hs⟩:=Sat.openRg hs;exact(ZiC H b A cap r.l r.room r.last q (by have:=h1.len;have:=h1.room;omega) w hs).mono fun e w' ⟨_,he,hx⟩=>⟨(),he,Sat.closeRg h1 hx⟩
theorem ZhP (H:List SP)(j:Nat)(A:Option Addr)(cap:Nat)(l:List Rec)(hj:H[j]? =some (row reE 48 (.slice A l.length cap) l))(hl:l.length≤1000000):U1 94 #[.slice A l.length cap] H (ι:=AN) (fun p=> .slice p.1 l.length p.2) fun p=>row reE 48 (.slice p.1 l.length p.2) l::H:=by
 have hk:KR H reE ⟨A,cap,l⟩:=Zad j hj;refine eG func94 8 ?_;refine PT.know (rowA j hj) ?_;intro hA;rcases hA with⟨rfl,rfl,rfl⟩|⟨sb,so,rfl⟩
 ·refine Xq<|Xg 1<|Be<|Xq<|Xq<|Xg 2<|Be<|cT<|Xq<|Xg 1<|Be<|Xv (Zab ?_);refine PT.rowNil reE 48 ?_;refine Y0 (.slice none 0 0) (fun w hs=>?_);exact⟨(none,0),rfl,hs⟩
 ·refine Xq<|Xg 1<|Be<|Xq<|Xq<|Xg 2<|Be<|cF<|Xk<|Xq<|Xg 4<|Bx 3 (Xn 48 [] (some 5) (fun b=> .slice (s0 b) 0 0)) fun b1=>Br 2 1 ?_
  refine PT.blkRow0 (E:=reE) ?_;exact Bx 1 (Xf (E:=reE) 36 (.tmp 5) (.tmp 6) (s0 b1) 0 ([]:List Rec) l (.slice (sA sb so) l.length cap) 7 underlying36 (Zi9) ((hk.up)) (by simp only[List.length_nil];omega)) fun r2=>Be<|Xv (Y0 (.slice r2.1 ((([]:List Rec)++l).length) r2.2) fun w hs=>⟨r2,rfl,hs⟩)
theorem Zkz (H:List SP)(b:Nat)(A:Option Addr)(cap:Nat)(l:List Rec)(m n:Int)(hl:l.length≤1000000):U1 52 #[vp b] (blk b 178 [.slice A l.length cap,vi m,vi n]::row reE 48 (.slice A l.length cap) l::H) (ι:=AN) (fun p=> .slice p.1 l.length p.2) fun p=>row reE 48 (.slice p.1 l.length p.2) l::blk b 178 [.slice A l.length cap,vi m,vi n]::row reE 48 (.slice A l.length cap) l::H:=by
 refine eG func52 8 ?_;exact Xq<|Xg 1<|Be<|Xq<|Xg 6<|Bl 2 4 [(⟨b,0,none⟩,.slice A l.length cap)] (hasC (ba 0) Zaa)<|Bx 1 (Xa (some 7) _ (ZhP (blk b 178 [.slice A l.length cap,.int .i64 m,.int .i64 n]::row reE 48 (.slice A l.length cap) l::H) 1 A cap l rfl hl)) fun(p:AN)=>Be<|Xv (Y0 (.slice p.1 l.length p.2) fun w hs=>⟨p,rfl,hs⟩)
theorem Zqc (H:List SP)(b:Nat)(r:RgS):U1 52 #[vp b] (rgS b r::H) (ι:=AN) (fun p=> .slice p.1 r.l.length p.2) fun p=>row reE 48 (.slice p.1 r.l.length p.2) r.l::rgS b r::H:=fun w hs=>by
 obtain⟨A,cap,h1,hs⟩:=Sat.openRg hs;exact(Zkz H b A cap r.l r.room r.last (by have:=h1.len;have:=h1.room;omega) w hs).mono fun e w' ⟨p,he,hx⟩=>⟨p,he,SatF.swap (Sat.closeRg (H:=row reE 48 (.slice p.1 r.l.length p.2) r.l::H) (A:=A) (cap:=cap) h1 (Sat.perm (List.perm_middle (a:=row reE 48 (.slice p.1 r.l.length p.2) r.l) (l₁:=[_,_]) (l₂:=H)).symm hx))⟩
end Go.Proofs.YtfhkgohokbkgiaaGreatDoor
namespace Go.Proofs.YtfhkgohokbkgiaaGreatDoor
open Go.RowKit
def leE :Enc (Int×Int):=⟨2,by decide,fun p=> [.int .i64 p.1,.int .i64 p.2],fun _=>rfl,by intro a u hu;simp at hu;rcases hu with rfl|rfl<;>rfl⟩
theorem Zps :(Tryz.prog.info? 254).map (fun i=>(i.zero,i.size,i.bytes))=some (some (.agg #[.int .i64 0,.int .i64 0]),2,16):=by kernel_rfl
theorem Zk6 :Ety Tryz.prog leE 254 (.agg #[.int .i64 0,.int .i64 0]):=by
 obtain⟨i,hi,hz,hs,hb⟩:=info_parts Zps;exact⟨⟨i,hi,hz,hs,by omega⟩,rfl⟩
theorem Zf6 (n:Nat):∀u∈(Builtin.zeroCells (Value.agg #[.int .i64 0,.int .i64 0]).cells n).toList,u.oneCell'=true:=by
 intro u hu;simp only[Builtin.zeroCells,Value.cells,List.size_toArray,List.length_cons,List.length_nil,Array.toList_map,List.mem_map]at hu;obtain⟨k,_,rfl⟩:=hu;rcases(show k%2=0∨k%2=1 by omega)with h|h<;>simp[h,Value.oneCell']
theorem Znd (w :World) (b o c n:Nat) (cur:Array Value) (xs zs:List (Int×Int)) (i:Nat) (hz:zs=xs.take i++xs.drop (i+1)) (hx:xs.length=n) (hb:w.heap[b]? =some (.cells cur 254 (0,0))) (hc1:n≤c) (hc2:c≤maxLen) (hc3:o+c*2≤cur.size) (hcur:(cur.toList.drop o).take (n*2)=leE.flat xs)
    (hi:i<n) (hn:n≤1000000000):
    Calls Tryz.prog 176 #[.slice (some ⟨b,o,none⟩) n c,.int .i64 i,.int .i64 (i+1)] w (ZaO leE 254 (ZbN b) w zs):=by
  have hne:((i:Int)==(i:Int)+1)=false:=by simp;omega
  have hlen:cur.toList.length=cur.size:=by simp
  have hrow:Row leE 254 w.drew (ZbN b) (.slice (some ⟨b,o,none⟩) (xs.take i).length c) (xs.take i):=by
    refine .inr ⟨b,o,c,cur,rfl,rfl,hb,by simp;omega,hc2,hc3,?_⟩;rw[List.length_take,hx,Nat.min_eq_left (by omega)];rw[←leE.flat_take,←hcur,List.take_take];congr 1;show i*2=min (i*2) (n*2);omega
  have hil:(xs.take i).length=i:=by rw[List.length_take,hx];omega
  have hdl:(xs.drop (i+1)).length=n- (i+1):=by rw[List.length_drop,hx]
  have hcell:∀j u,(leE.flat (xs.drop (i+1)))[j]? =some u→w.drew.cell? ⟨b,o+(i+1)*2+j,none⟩=some u:=by
    intro j u hu;rw[cell_of_row w.drew b _ cur 254 (0,0) hb];rw[←leE.flat_drop,←hcur]at hu;rw[List.getElem?_drop,List.getElem?_take]at hu;split at hu
    · rw[List.getElem?_drop]at hu
      rw[←Array.getElem?_toList,←hu];show _=cur.toList[o+((i+1)*2+j)]?;congr 1;omega
    · cases hu
  have hap:∀(X:Option Addr) (m dc:Nat),m=n- (i+1)→(¬c=i+1→X=some ⟨b,o+(i+1)*2,none⟩∧dc=c- (i+1))→(c=i+1→X=some ⟨b,o,none⟩∧dc=0)→∃cur1,cur1.size=cur.size∧(cur1.toList.drop o).take ((n-1)*2)=leE.flat zs∧
      (Builtin.append_ #[179,179] 179 #[.slice (some ⟨b,o,none⟩) i c,.slice X m dc]).run Tryz.prog w.drew= .ok (.slice (some ⟨b,o,none⟩) (n-1) c) (w.drew.setRow b cur1):=by
    intro X m dc hm hX1 hX2;subst hm;obtain⟨ii,hii,hzz,hss,hbb⟩:=info_parts Zps;have hfl:(leE.flat (xs.drop (i+1))).length=(n- (i+1))*2:=by rw[leE.flat_length,hdl];rfl
    have hfl0:(leE.flat (xs.take i)).length=i*2:=by rw[leE.flat_length,hil];rfl
    have hf:(Builtin.firstCells 2 (n- (i+1)) (.slice X (n- (i+1)) dc)).run Tryz.prog w.drew= .ok (leE.flat (xs.drop (i+1))).toArray w.drew:=by
      by_cases hcc:c=i+1
      · obtain⟨rfl,rfl⟩:=hX2 hcc
        have e0:n- (i+1)=0:=by omega
        rw[e0]at hfl ⊢;have:leE.flat (xs.drop (i+1))=[]:=List.eq_nil_of_length_eq_zero (by simpa using hfl);rw[this];exact run_firstCells_some (P:=Tryz.prog) w.drew 2 0 _ _ _ [] rfl (by intro j u h;simp at h)
      · obtain⟨rfl,rfl⟩:=hX1 hcc
        exact run_firstCells_some (P:=Tryz.prog) w.drew 2 _ _ _ _ _ hfl (fun j u hu=>by rw[Addr.add_lit];exact hcell j u hu)
    have hst:=run_storeCells_at Tryz.prog b (o+i*2) 254 (leE.flat (xs.drop (i+1))) 0 cur w.drew hb (by rw[hfl];omega) (leE.flat_one' _);simp only[Nat.add_zero]at hst;refine⟨(cur.toList.take (o+i*2)++leE.flat (xs.drop (i+1))++cur.toList.drop (o+i*2+(leE.flat (xs.drop (i+1))).length)).toArray,?_,?_,?_⟩
    rotate_left 2
    · have hroom:i+(n- (i+1))≤c:=by omega
      have e1:i+(n- (i+1))=n-1:=by omega
      simp[Builtin.append_,run_underlying Tryz.underlying179,sizeOf,typeInfo,hii,hss,Builtin.lenOf,hf,Addr.add_lit,hst,e1];intro h;omega
    · simp only[List.size_toArray,List.length_append,List.length_take,List.length_drop,hlen,hfl];omega
    · have htm:=Zdj cur.toList o (i*2) (leE.flat (xs.drop (i+1))).length (leE.flat (xs.drop (i+1))) rfl (by rw[hlen,hfl];omega)
      have e2:(n-1)*2=i*2+(leE.flat (xs.drop (i+1))).length:=by rw[hfl];omega
      rw[e2];show List.take _ (List.drop o (List.take (o+i*2) cur.toList++leE.flat (xs.drop (i+1))++List.drop (o+i*2+(leE.flat (xs.drop (i+1))).length) cur.toList))=_;rw[htm,hz,Enc.flat_append];congr 1;rw[←leE.flat_take,←hcur,List.take_take];congr 1;show i*2=min (i*2) (n*2);omega
  have hclr:∀cur1:Array Value,cur1.size=cur.size→(cur1.toList.drop o).take ((n-1)*2)=leE.flat zs→∃cur2,(∀dc,(Builtin.clear_ #[179] 0 #[.slice (some ⟨b,o+(n-1)*2,none⟩) 1 dc]).run Tryz.prog (w.drew.setRow b cur1)= .ok (.tuple #[]) ((w.drew.setRow b cur1).setRow b cur2))∧
      ZaO leE 254 (ZbN b) w zs (.returned (.slice (some ⟨b,o,none⟩) (n-1) c)) ((w.drew.setRow b cur1).setRow b cur2):=by
    intro cur1 hs1 ht1;have hb1:(w.drew.setRow b cur1).heap[b]? =some (.cells cur1 254 (0,0)):=setRow_heap w.drew b cur cur1 _ _ hb;have hl1:cur1.toList.length=cur.size:=by simp[hs1]
    have hzl:(Builtin.zeroCells (Value.agg #[.int .i64 0,.int .i64 0]).cells 1).toList.length=2:=by rw[Array.length_toList,size_zeroCells];rfl
    refine⟨_,fun dc=>ZbK (P:=Tryz.prog) Tryz.underlying179 Zk6 hb1 (by omega) (by rw[hs1];show _+1*2≤_;omega) (Zf6 1),?_⟩;refine⟨_,ZbN b,rfl,.inr ⟨b,o,c,_,?_,rfl,setRow_heap _ b cur1 _ _ _ hb1,?_,hc2,?_,?_⟩,⟨rfl,rfl,rfl,by simp[World.setRow],fun k _ hk=>(setRow_other _ b k _ (fun e=>hk e)).trans (setRow_other w.drew b k _ (fun e=>hk e))⟩,fun b hb=> .inl hb⟩
    · congr 1;rw[hz];simp;omega
    · rw[hz];simp;omega
    · simp only[List.size_toArray,List.length_append,List.length_take,List.length_drop,hl1,hzl]
      show o+c*2≤_+(_- (_+1*2));omega
    · have hzn:zs.length=n-1:=by rw[hz];simp;omega
      rw[hzn,←ht1];show List.take ((n-1)*2) (List.drop o (List.take (o+(n-1)*2) cur1.toList++(Builtin.zeroCells (Value.agg #[.int .i64 0,.int .i64 0]).cells 1).toList++List.drop (o+(n-1)*2+1*2) cur1.toList))=_;rw[List.append_assoc,List.drop_append,List.length_take,hl1,show o-min (o+(n-1)*2) cur.size=0 by omega,List.drop_zero,List.drop_take];have e3:o+(n-1)*2-o=(n-1)*2:=by omega
      rw[e3];exact List.take_left' (by simp only[List.length_take,List.length_drop,hl1];omega)
  have HAP:=Lib.hid hap;have HCL:=Lib.hid hclr;clear hap hclr hrow hil hdl hcell hcur hb hx hz hlen hc3;have hb2:¬(c=i):=by omega
  have hb3:¬(c=n-1):=by omega
  have hb4:i+1≤n:=by omega
  have hb5:(0:Int)≤(i:Int)+1:=by omega
  have hw1:IntKind.i64.wrap ((i:Int)+1)=(i:Int)+1:=by rw[IntKind.wrap_i64];omega
  have htn:((i:Int)+1).toNat=i+1:=by omega
  have hb6:n- (n-1)=1:=by omega
  have hb7:i≤n:=by omega
  have hb8:n-1≤n:=by omega
  have hb9:i≤c:=by omega
  have hb11:(i:Int)+1≤(n:Int):=by omega
  have hb10:(i:Int)≤(i:Int)+1:=by omega
  by_cases hcc:c=i+1
  · subst hcc
    obtain⟨cur1,hs1,ht1,hr1⟩:=HAP.out (some ⟨b,o,none⟩) 0 0 (by omega) (by intro h;exact absurd rfl h) (by intro _;exact⟨rfl,rfl⟩);obtain⟨cur2,hr2,hp0⟩:=HCL.out cur1 hs1 ht1;have hp:=Lib.hid hp0;have HR:=Lib.hid hr1;clear hs1 ht1 hp0 hr1 HAP HCL
    go_enter Tryz.func176,Tryz.ntmps176
    go_wp2
    go_region_law (refine ZaQ rfl _ _ _ _ rfl (by simp[Act.eval,Act.put]) (by simp[Act.eval,Act.put]) HR.out ?_)
    go_wp2
    go_ret
    exact hp.out
  · obtain⟨cur1,hs1,ht1,hr1⟩:=HAP.out (some ⟨b,o+(i+1)*2,none⟩) (n- (i+1)) (c- (i+1)) rfl (by intro _;exact⟨rfl,rfl⟩) (by intro h;exact absurd h hcc)
    obtain⟨cur2,hr2,hp0⟩:=HCL.out cur1 hs1 ht1;have hp:=Lib.hid hp0;have HR:=Lib.hid hr1;clear hs1 ht1 hp0 hr1 HAP HCL
    go_enter Tryz.func176,Tryz.ntmps176
    go_wp2
    go_region_law (refine ZaQ rfl _ _ _ _ rfl (by simp[Act.eval,Act.put]) (by simp[Act.eval,Act.put]) HR.out ?_)
    go_wp2
    go_ret
    exact hp.out
theorem Zsc (w:World)(F:Nat→Prop)(v:Value)(xs:List (Int×Int))(hrow:Row leE 254 w F v xs)(i:Nat)(hi:i<xs.length)(hn:xs.length≤1000000000):
  Calls Tryz.prog 176 #[v,.int .i64 i,.int .i64 (i+1)] w (ZaO leE 254 F w (xs.take i++xs.drop (i+1))):=by
 rcases hrow with⟨rfl,rfl,rfl⟩|⟨b,o,c,cur,rfl,rfl,hb,hc1,hc2,hc3,hcur⟩
 ·simp at hi
 ·exact Znd w b o c _ cur xs _ i rfl rfl hb hc1 hc2 hc3 hcur hi hn
end Go.Proofs.YtfhkgohokbkgiaaGreatDoor
namespace Go.Proofs.YtfhkgohokbkgiaaGreatDoor
open Go.RowKit G Tryz
def bxS (b:Nat)(x:BxS):SP:=exS fun p:AN=>two (Zcl (x.l.length≤100000)) (two (blk b 181 [.slice p.1 x.l.length p.2,.int .i64 x.room]) (row leE 254 (.slice p.1 x.l.length p.2) x.l))
theorem Sat.openBx {b:Nat}{r:BxS}{H:List SP}{w:World}(h:Sat w (bxS b r::H)):∃A cap,r.l.length≤100000∧Sat w (blk b 181 [.slice A r.l.length cap,.int .i64 r.room]::row leE 254 (.slice A r.l.length cap) r.l::H):=by
 obtain⟨⟨A,cap⟩,h⟩:=Sat.openEx h;obtain⟨h1,h⟩:=Sat.openPure (Sat.openTwo h);exact⟨A,cap,h1,Sat.openTwo h⟩
theorem Sat.closeBx {b:Nat}{r:BxS}{H:List SP}{w:World}{A:Option Addr}{cap:Nat}(h1:r.l.length≤100000)(h:Sat w (blk b 181 [.slice A r.l.length cap,.int .i64 r.room]::row leE 254 (.slice A r.l.length cap) r.l::H)):Sat w (bxS b r::H):=
 Sat.closeEx (A,cap) (Sat.closeTwo (Sat.closePure h1 (Sat.closeTwo h)))
theorem Zjc (H:List SP)(v:Value)(xs:List (Int×Int))(i:Nat)(hi:i<xs.length)(hn:xs.length≤1000000000):
  ∀w,Sat w (row leE 254 v xs::H)→Calls Tryz.prog 176 #[v,.int .i64 i,.int .i64 ((i:Int)+1)] w (Ret (ι:=AN) (fun p=> .slice p.1 (xs.take i++xs.drop (i+1)).length p.2) fun p=>row leE 254 (.slice p.1 (xs.take i++xs.drop (i+1)).length p.2) (xs.take i++xs.drop (i+1))::H):=
 Ze0 fun w F hr _=>Zsc w F v xs hr i hi hn
theorem Zlg (H:List SP)(m:Int):U1 45 #[vi m] H (ι:=Nat) (fun b=>vp b) fun b=>bxS b (bx0 m)::H:=by
 refine eG func45 8 ?_;exact Xq<|Xg 1<|Be<|Xq<|Xg 6<|Br 2 4<|Bx 1 (Xn 181 [.slice none 0 0,vi (mnI (mxI m 1) 8)] (some 7) (fun b=>vp b)) fun b1=>Be<|Xv (Y0 (vp b1) fun w hs=>⟨b1,rfl,Sat.closeBx (r:=bx0 m) (A:=none) (cap:=0) (by simp[bx0]) (SatF.swap (Sat.rowNil hs))⟩)
def Zcr (l:List (Int×Int))(d:Int):Int:=((l.filter fun x=>x.1==d).length:Int)
theorem ZhS (H:List SP)(b:Nat)(A:Option Addr)(cap:Nat)(l:List (Int×Int))(m:Int)(d:Int)(hl:l.length≤1000000):US 175 #[vp b,vi d] (blk b 181 [.slice A l.length cap,vi m]::row leE 254 (.slice A l.length cap) l::H) (vi (Zcr l d)):=by
 refine eG func175 29 ?_;refine Xq (Xg 1 (Be ?_));refine ZcW 0 (fun(u:Nat)=> [(0,vp b),(1,vi d),(5,vi (Zcr (l.take u) d)),(6,vi u)]) (fun _=>(blk b 181 [.slice A l.length cap,vi m]::row leE 254 (.slice A l.length cap) l::H)) (fun k (u:Nat)=>k+u=l.length) Kr Kr Kr Kr ?_ ?_
 ·rintro k u hku K hK;refine Xq<|Xq<|Xg 7<|Cm [(0,vp b),(1,vi d),(5,vi (Zcr (l.take u) d)),(6,vi u),(13,.bool ((u:Int)==(l.length:Int)))] [(⟨b,0,none⟩,.slice A l.length cap)] (hasC (ba 0) Zaa)<|Xc ((u:Int)==(l.length:Int)) (fun h1=>?_) (fun h1=>?_)
  ·have hu0:(u:Int)=(l.length:Int):=eq_of_beq h1;have hu:u=l.length:=by omega
   exact Xq<|Xg 2<|Be<|Xv (Zab (ZcR (Y0 (vi (Zcr (l.take u) d)) fun w hs=>⟨(),by rw[hu,List.take_length],hs⟩)))
  ·have hu0:¬(u:Int)=(l.length:Int):=beq_eq_false_iff_ne.1 h1;have hu:u<l.length:=by omega
   obtain⟨e,he⟩:∃e,l[u]? =some e:=⟨_,by simp[hu];rfl⟩
   refine PT.know (KR.isSome (s:=⟨A,cap,l⟩) (Zad 1 rfl) (List.ne_nil_of_length_pos (by show 0<l.length;omega))) ?_;rintro⟨sb,so,hA⟩;dsimp only at hA;subst hA;have hc0:0≤Zcr (l.take u) d∧Zcr (l.take u) d≤u:=⟨Int.natCast_nonneg _,by unfold Zcr;have:=List.length_filter_le (fun x=>x.1==d) (l.take u);simp only[List.length_take]at this;omega⟩
   have hc1:Zcr (l.take (u+1)) d=Zcr (l.take u) d+if e.1=d then 1 else 0:=by
    unfold Zcr;rw[List.take_add_one,he,List.filter_append];by_cases c:e.1=d<;>simp[c]
   refine Xk<|Xq<|Xq<|Xg 10<|Bl 5 5 [(⟨b,0,none⟩,.slice (sA sb so) l.length cap)] (hasC (ba 0) Zaa)<|Bs 4 (Zav (Xi 179 (.tmp 18) (.tmp 19) sb so l.length cap u 2 254 (u:Int) 20 underlying179))<|Bm [(⟨sb,so+u*2,none⟩,vi e.1)] (hasC ((Zad (xs:=l) (A:=some ⟨sb,so,none⟩) (k:=cap) (E:=leE) (T:=254) 1 rfl).cell rfl (i:=u) (x:=e) he (j:=0) rfl) Zaa)<|Xc (e.1==d) (fun h2=>?_) (fun h2=>?_)
   ·rw[if_pos (eq_of_beq h2)]at hc1;refine Xg 3<|Be<|Xq (Xg 3 (Ce [(0,vp b),(1,vi d),(5,vi (IntKind.i64.wrap ((Zcr (l.take u) d)+1))),(6,vi (IntKind.i64.wrap ((u:Int)+1)))] ?_));refine Zep 0 Kr Kr ?_;rw[show IntKind.i64.wrap ((Zcr (l.take u) d)+1)=((Zcr (l.take u) d)+1)by rw[w64 (by omega) (by omega)]];rw[show IntKind.i64.wrap ((u:Int)+1)=((u:Int)+1)by rw[w64 (by omega) (by omega)]];rw[show((Zcr (l.take u) d)+1)=(Zcr (l.take (u+1)) d)by exact hc1.symm];exact Xp _ (Zen (hK (k-1) (u+1) (by omega) (by omega)))
   ·rw[if_neg (beq_eq_false_iff_ne.1 h2),Int.add_zero]at hc1;refine Xk (Xq (Xg 3 (Ce [(0,vp b),(1,vi d),(5,vi (Zcr (l.take u) d)),(6,vi (IntKind.i64.wrap ((u:Int)+1)))] ?_)));refine Zep 0 Kr Kr ?_;rw[show IntKind.i64.wrap ((u:Int)+1)=((u:Int)+1)by rw[w64 (by omega) (by omega)]];rw[show(Zcr (l.take u) d)=(Zcr (l.take (u+1)) d)by exact hc1.symm];exact Xp _ (Zen (hK (k-1) (u+1) (by omega) (by omega)))
 ·intro K hK;refine Xq<|Xg 2<|Be<|Xq ?_;refine ZcY Kr ?_;refine Xp [(0,vp b),(1,vi d),(5,vi 0),(6,vi 0)] ?_;refine ZeC Kr (hK l.length 0 (by omega))
theorem Zlf (H:List SP)(b:Nat)(A:Option Addr)(cap:Nat)(l:List (Int×Int))(m:Int)(d x:Int)(hl:l.length≤1000000):U1 123 #[vp b,.agg #[vi d,vi x]] (blk b 181 [.slice A l.length cap,vi m]::row leE 254 (.slice A l.length cap) l::H) (ι:=AN) (fun _=> .bool (!decide (m≤Zcr l d))) fun p=>blk b 181 [.slice p.1 (Zb0 ⟨l,m⟩ d x).l.length p.2,vi m]::row leE 254 (.slice p.1 (Zb0 ⟨l,m⟩ d x).l.length p.2) (Zb0 ⟨l,m⟩ d x).l::H:=by
 refine eG func123 24 ?_;refine Xq<|Xg 2<|Bx 1 (Xn 254 [vi d,vi x] (some 3) (fun b=>vp b)) fun b1=>Be<|Xq<|Xq<|PT.pick 0 rfl<|PT.pick 2 rfl<|PT.pick 2 rfl<|Xy0 0 [] 9<|At' [0,1,2,4,5,6,7] [(⟨b1,0,none⟩,vi d),(⟨b,1,none⟩,vi m)] (hasC (ba 2) (hasC (ba 0) Zaa))<|Yo 3 (Xa (some 8) _ (ZhS _ b A cap l m d hl))<|At' [8] [] Zaa<|Xd (Xc (decide ((Zcr l d)≥m)) (fun h1=>?_) (fun h1=>?_))
 ·have h1':=of_decide_eq_true h1;exact Xq<|Xg 1<|Be<|Xv (Zab (Y0 (.bool false) fun w hs=>⟨(A,cap),by rw[decide_eq_true (p:=m≤Zcr l d) h1'];rfl,by rw[Zb0];dsimp only;rw[if_pos (show m≤Zjh ⟨l,m⟩ d from h1')];exact Sat.erase 2 rfl hs⟩))
 ·have h1':=of_decide_eq_false h1;exact Xk<|Xq<|PT.pick 1 rfl<|Xy0 1 [10] 11<|At' [0,1,2,3,4,5] [(⟨b,0,none⟩,.slice A l.length cap),(⟨b1,0,none⟩,vi d),(⟨b1,1,none⟩,vi x)] (hasC (ba 0) (hasC (ba 1) (hasC (ba 1) Zaa)))<|Xo 6 (Xn 254 [vi d,vi x] (some 20) (fun b=> .slice (s0 b) 1 1)) fun b2=>DT.pick 1 rfl<|Xo 7 (Xf (E:=leE) 179 (.tmp 18) (.tmp 20) A cap l [(d,x)] (.slice (s0 b2) 1 1) 21 underlying179 (Zk6) (Zbr (x:=(d,x)) 1 rfl) (by simp only[List.length_cons,List.length_nil];omega)) fun r3=>At' [8,9] [] Zaa<|DT.pick 2 rfl<|Yo 10 (Xz [(0,.slice r3.1 ((l++[(d,x)]).length) r3.2)])<|Xd<|Xq<|Xg 1<|Be<|Xv (Y0 (.bool true) fun w hs=>⟨r3,by rw[decide_eq_false (p:=m≤Zcr l d) h1'];rfl,by rw[Zb0];dsimp only;rw[if_neg (show¬m≤Zjh ⟨l,m⟩ d from h1')];exact Sat.erase 2 rfl (Sat.erase 2 rfl hs)⟩)
theorem ZhT (x:BxS)(d v:Int)(h:x.l.length≤100000)(hr:(x.l.length:Int)<100000):(Zb0 x d v).l.length≤100000:=by
 unfold Zb0;split
 ·exact h
 ·simp;omega
theorem ZqS (H:List SP)(b:Nat)(r:BxS)(d x:Int)(hr:r.l.length<100000):U0 123 #[vp b,.agg #[vi d,vi x]] (bxS b r::H) (.bool (!decide (r.room≤Zjh r d))) (bxS b (Zb0 r d x)::H):=fun w hs=>by
 obtain⟨A,cap,h1,hs⟩:=Sat.openBx hs;refine(Zlf H b A cap r.l r.room d x (by omega) w hs).mono fun e w' ⟨p,he,hx⟩=>⟨(),he,Sat.closeBx (r:=Zb0 r d x) (A:=p.1) (cap:=p.2) (ZhT r d x h1 (by omega)) ?_⟩
 have e2:(Zb0 r d x).room=r.room:=by unfold Zb0;split<;>rfl
 rw[e2];exact hx
def Zbo (r:BxS):(Int×Int)×Bool:=match r.l with| []=>((0,0),false)|x::_=>(x,true)
theorem Zjg (H:List SP)(b:Nat)(A:Option Addr)(cap:Nat)(l:List (Int×Int))(m:Int)(hl:l.length≤1000000):U1 124 #[vp b] (blk b 181 [.slice A l.length cap,vi m]::row leE 254 (.slice A l.length cap) l::H) (ι:=AN) (fun _=> .tuple #[.agg #[vi (Zbo ⟨l,m⟩).1.1,vi (Zbo ⟨l,m⟩).1.2],.bool (Zbo ⟨l,m⟩).2]) fun p=>blk b 181 [.slice p.1 (ZbS ⟨l,m⟩).l.length p.2,vi m]::row leE 254 (.slice p.1 (ZbS ⟨l,m⟩).l.length p.2) (ZbS ⟨l,m⟩).l::H:=by
 refine eG func124 27 ?_;refine Xq<|Xg 2<|Bx 1 (Xn 254 [vi 0,vi 0] (some 2) (fun b=>vp b)) fun b1=>Be<|Xq<|Xq<|Xg 6<|Cm [(2,vp b1),(0,vp b),(3,.bool false),(10,.bool ((l.length:Int)==0))] [(⟨b,0,none⟩,.slice A l.length cap)] (hasC (ba 1) Zaa)<|Xc ((l.length:Int)==0) (fun h1=>?_) (fun h1=>?_)
 ·have hl0:(l.length:Int)=0:=eq_of_beq h1;obtain rfl:l=[]:=List.eq_nil_of_length_eq_zero (by omega);refine Xq<|Xg 3<|Br 2 1<|Bs 1 (Xz [(0,vi 0),(1,vi 0)])<|Be<|Xv<|Zab<|dB 0 (.tuple #[.agg #[.int .i64 0,.int .i64 0],.bool false]) (fun w hs=>?_);exact⟨(A,cap),rfl,hs.tail⟩
 ·have hl0:¬(l.length:Int)=0:=beq_eq_false_iff_ne.1 h1;obtain⟨e,r,rfl⟩:∃e r,l=e::r:=List.exists_cons_of_length_pos (by omega);refine PT.know (KR.isSome (s:=⟨A,cap,e::r⟩) (Zad 2 rfl) (by simp)) ?_;rintro⟨sb,so,hA⟩;dsimp only at hA;subst hA;refine Xk<|Xq<|Xg 8<|Bl 4 4 [(⟨b,0,none⟩,.slice (sA sb so) ((e::r).length) cap)] (hasC (ba 1) Zaa)<|Bs 3 (Zav (Xi 179 (.tmp 15) (.const (.int .i64 0)) sb so ((e::r).length) cap 0 2 254 0 16 underlying179))<|Bl 2 1 [(⟨sb,so+0*2,none⟩,vi e.1),(⟨sb,so+0*2+1,none⟩,vi e.2)] (hasC ((Zad (xs:=e::r) (A:=some ⟨sb,so,none⟩) (k:=cap) (E:=leE) (T:=254) 2 rfl).cell rfl (i:=0) (x:=e) rfl (j:=0) rfl) (hasC ((Zad (xs:=e::r) (A:=some ⟨sb,so,none⟩) (k:=cap) (E:=leE) (T:=254) 2 rfl).cell rfl (i:=0) (x:=e) rfl (j:=1) rfl) Zaa))<|Bx 1 (Xn 254 [vi 0,vi 0] (some 4) (fun b=>vp b)) fun b2=>Bs 0 (Xz [(0,vi e.1),(1,vi e.2)])<|endR<|Xq<|Xg 9<|Bl 4 5 [(⟨b,0,none⟩,.slice (sA sb so) ((e::r).length) cap)] (hasC (ba 2) Zaa)<|Bx 3 (Xa (some 23) _ (Zak 3 rfl (Zjc _ (.slice (sA sb so) (e::r).length cap) (e::r) 0 (by simp) (by omega)))) fun(p:AN)=>Br 1 2<|Xh0 ?_ 2 1
  refine Bs 0 (Xz [(0,.slice p.1 (((e::r).take 0++(e::r).drop (0+1)).length) p.2)])<|endR<|Xq<|Xg 3<|Bl 2 1 [(⟨b2,0,none⟩,vi e.1),(⟨b2,1,none⟩,vi e.2)] (hasC (ba 1) (hasC (ba 1) Zaa))<|Xh0 ?_ 2 2;refine Bs 1 (Xz [(0,vi e.1),(1,vi e.2)])<|Be<|Xv<|dB 0 (.tuple #[.agg #[.int .i64 e.1,.int .i64 e.2],.bool true]) (fun w hs=>?_);exact⟨p,rfl,Sat.erase 1 rfl (Sat.tail hs)⟩
theorem ZoO (H:List SP)(b:Nat)(r:BxS):U0 124 #[vp b] (bxS b r::H) (.tuple #[.agg #[vi (Zbo r).1.1,vi (Zbo r).1.2],.bool (Zbo r).2]) (bxS b (ZbS r)::H):=fun w hs=>by
 obtain⟨A,cap,h1,hs⟩:=Sat.openBx hs;exact(Zjg H b A cap r.l r.room (by omega) w hs).mono fun e w' ⟨p,he,hx⟩=>⟨(),he,Sat.closeBx (r:=ZbS r) (A:=p.1) (cap:=p.2) (by show(r.l.drop 1).length≤100000;rw[List.length_drop];omega) hx⟩
def puS (b:Nat)(left all:Int):SP:=blk b 183 [.int .i64 left,.int .i64 all]
theorem ZkK (H:List SP)(n:Int):U1 46 #[vi n] H (ι:=Nat) (fun b=>vp b) fun b=>puS b (sends n) (sends n)::H:=by
 refine eG func46 11 ?_;exact Xq<|Xg 1<|Be<|Xq<|Xg 4<|Be<|Xq<|Xg 5<|Br 2 3<|Bx 1 (Xn 183 [vi (mnI (mxI n 0) 8),vi (mnI (mxI n 0) 8)] (some 10) (fun b=>vp b)) fun b1=>Be<|Xv (Y0 (vp b1) fun w hs=>⟨b1,rfl,hs⟩)
theorem Zhc (H:List SP)(b:Nat)(n a:Int)(hn:0≤n∧n≤1000):U0 122 #[vp b] (puS b n a::H) (.bool (!(n==0))) (puS b (if n=0 then n else n-1) a::H):=by
 unfold puS;refine eG func122 15 ?_;refine Xq<|Xg 1<|Be<|Xq<|Xq<|Xg 5<|Bm [(⟨b,0,none⟩,vi n)] (hasC (ba 0) Zaa)<|Xc (n==0) (fun h1=>?_) (fun h1=>?_)
 ·have h1':n=0:=eq_of_beq h1;exact Xq<|Xg 1<|Be<|Xv (Zab (Y0 (.bool false) fun w hs=>⟨(),by rw[h1];rfl,by rw[if_pos h1'];exact hs⟩))
 ·have h1':n≠0:=beq_eq_false_iff_ne.1 h1;refine Xk<|Xq<|Xg 8<|Bl 1 7 [(⟨b,0,none⟩,vi n)] (hasC (ba 0) Zaa)<|Bs 0 (Xz [(0,vi (IntKind.i64.wrap (n-1)))])<|endR<|Xq<|Xg 1<|Ce [(2,.bool true)]<|Xv ?_;rw[show IntKind.i64.wrap (n-1)=(n-1)by rw[w64 (by omega) (by omega)]];refine Y0 (.bool true) (fun w hs=>?_);exact⟨(),by rw[h1];rfl,by rw[if_neg h1'];exact hs⟩
theorem ZiJ (H:List SP)(b:Nat)(n a:Int):U0 55 #[vp b] (puS b n a::H) (.tuple #[]) (puS b a a::H):=by
 unfold puS;refine eG func55 9 ?_;refine Xg 8<|Bl 1 7 [(⟨b,1,none⟩,vi a)] (hasC (ba 0) Zaa)<|Bs 0 (Xz [(0,vi a)])<|endR<|Y1 (.tuple #[]) (fun w hs=>?_);exact⟨(),rfl,hs⟩
theorem Zpt :(Tryz.prog.info? 3).map (fun i=>(i.zero,i.size,i.bytes))=some (some (.int .i64 0),1,8):=by kernel_rfl
theorem ZoJ :Ety Tryz.prog (kE .i64) 3 (.int .i64 0):=by
 obtain⟨i,hi,hz,hs,hb⟩:=info_parts Zpt;exact⟨⟨i,hi,hz,hs,by omega⟩,rfl⟩
theorem ZdL (n:Nat):∀u∈(Builtin.zeroCells (Value.int .i64 0).cells n).toList,u.oneCell'=true:=by
 intro u hu;simp only[Builtin.zeroCells,Value.cells,List.size_toArray,List.length_cons,List.length_nil,Array.toList_map,List.mem_map]at hu;obtain⟨k,_,rfl⟩:=hu;have h:k%1=0:=Nat.mod_one k;simp[h,Value.oneCell']
theorem Zne (w :World) (b o c n:Nat) (cur:Array Value) (xs zs:List Int) (i:Nat) (hz:zs=xs.take i++xs.drop (i+1)) (hx:xs.length=n) (hb:w.heap[b]? =some (.cells cur 3 (0,0))) (hc1:n≤c) (hc2:c≤maxLen) (hc3:o+c*1≤cur.size) (hcur:(cur.toList.drop o).take (n*1)=(kE .i64).flat xs)
    (hi:i<n) (hn:n≤1000000000):
    Calls Tryz.prog 209 #[.slice (some ⟨b,o,none⟩) n c,.int .i64 i,.int .i64 (i+1)] w (ZaO (kE .i64) 3 (ZbN b) w zs):=by
  have hne:((i:Int)==(i:Int)+1)=false:=by simp;omega
  have hlen:cur.toList.length=cur.size:=by simp
  have hrow:Row (kE .i64) 3 w.drew (ZbN b) (.slice (some ⟨b,o,none⟩) (xs.take i).length c) (xs.take i):=by
    refine .inr ⟨b,o,c,cur,rfl,rfl,hb,by simp;omega,hc2,hc3,?_⟩;rw[List.length_take,hx,Nat.min_eq_left (by omega)];rw[←(kE .i64).flat_take,←hcur,List.take_take];congr 1;show i*1=min (i*1) (n*1);omega
  have hil:(xs.take i).length=i:=by rw[List.length_take,hx];omega
  have hdl:(xs.drop (i+1)).length=n- (i+1):=by rw[List.length_drop,hx]
  have hcell:∀j u,((kE .i64).flat (xs.drop (i+1)))[j]? =some u→w.drew.cell? ⟨b,o+(i+1)*1+j,none⟩=some u:=by
    intro j u hu;rw[cell_of_row w.drew b _ cur 3 (0,0) hb];rw[←(kE .i64).flat_drop,←hcur]at hu;rw[List.getElem?_drop,List.getElem?_take]at hu;split at hu
    · rw[List.getElem?_drop]at hu
      rw[←Array.getElem?_toList,←hu];show _=cur.toList[o+((i+1)*1+j)]?;congr 1;omega
    · cases hu
  have hap:∀(X:Option Addr) (m dc:Nat),m=n- (i+1)→(¬c=i+1→X=some ⟨b,o+(i+1)*1,none⟩∧dc=c- (i+1))→(c=i+1→X=some ⟨b,o,none⟩∧dc=0)→∃cur1,cur1.size=cur.size∧(cur1.toList.drop o).take ((n-1)*1)=(kE .i64).flat zs∧
      (Builtin.append_ #[42,42] 42 #[.slice (some ⟨b,o,none⟩) i c,.slice X m dc]).run Tryz.prog w.drew= .ok (.slice (some ⟨b,o,none⟩) (n-1) c) (w.drew.setRow b cur1):=by
    intro X m dc hm hX1 hX2;subst hm;obtain⟨ii,hii,hzz,hss,hbb⟩:=info_parts Zpt;have hfl:((kE .i64).flat (xs.drop (i+1))).length=(n- (i+1))*1:=by rw[(kE .i64).flat_length,hdl];rfl
    have hfl0:((kE .i64).flat (xs.take i)).length=i*1:=by rw[(kE .i64).flat_length,hil];rfl
    have hf:(Builtin.firstCells 1 (n- (i+1)) (.slice X (n- (i+1)) dc)).run Tryz.prog w.drew= .ok ((kE .i64).flat (xs.drop (i+1))).toArray w.drew:=by
      by_cases hcc:c=i+1
      · obtain⟨rfl,rfl⟩:=hX2 hcc
        have e0:n- (i+1)=0:=by omega
        rw[e0]at hfl ⊢;have:(kE .i64).flat (xs.drop (i+1))=[]:=List.eq_nil_of_length_eq_zero (by simpa using hfl);rw[this];exact run_firstCells_some (P:=Tryz.prog) w.drew 1 0 _ _ _ [] rfl (by intro j u h;simp at h)
      · obtain⟨rfl,rfl⟩:=hX1 hcc
        exact run_firstCells_some (P:=Tryz.prog) w.drew 1 _ _ _ _ _ hfl (fun j u hu=>by rw[Addr.add_lit];exact hcell j u hu)
    have hst:=run_storeCells_at Tryz.prog b (o+i*1) 3 ((kE .i64).flat (xs.drop (i+1))) 0 cur w.drew hb (by rw[hfl];omega) ((kE .i64).flat_one' _);simp only[Nat.add_zero,Nat.mul_one]at hst;refine⟨(cur.toList.take (o+i*1)++(kE .i64).flat (xs.drop (i+1))++cur.toList.drop (o+i*1+((kE .i64).flat (xs.drop (i+1))).length)).toArray,?_,?_,?_⟩
    rotate_left 2
    · have hroom:i+(n- (i+1))≤c:=by omega
      have e1:i+(n- (i+1))=n-1:=by omega
      simp[Builtin.append_,run_underlying underlying42,sizeOf,typeInfo,hii,hss,Builtin.lenOf,hf,Addr.add_lit,hst,e1];intro h;omega
    · simp only[List.size_toArray,List.length_append,List.length_take,List.length_drop,hlen,hfl];omega
    · have htm:=Zdj cur.toList o (i*1) ((kE .i64).flat (xs.drop (i+1))).length ((kE .i64).flat (xs.drop (i+1))) rfl (by rw[hlen,hfl];omega)
      have e2:(n-1)*1=i*1+((kE .i64).flat (xs.drop (i+1))).length:=by rw[hfl];omega
      rw[e2];show List.take _ (List.drop o (List.take (o+i*1) cur.toList++(kE .i64).flat (xs.drop (i+1))++List.drop (o+i*1+((kE .i64).flat (xs.drop (i+1))).length) cur.toList))=_;rw[htm,hz,Enc.flat_append];congr 1;rw[←(kE .i64).flat_take,←hcur,List.take_take];congr 1;show i*1=min (i*1) (n*1);omega
  have hclr:∀cur1:Array Value,cur1.size=cur.size→(cur1.toList.drop o).take ((n-1)*1)=(kE .i64).flat zs→∃cur2,(∀dc,(Builtin.clear_ #[42] 0 #[.slice (some ⟨b,o+(n-1)*1,none⟩) 1 dc]).run Tryz.prog (w.drew.setRow b cur1)= .ok (.tuple #[]) ((w.drew.setRow b cur1).setRow b cur2))∧
      ZaO (kE .i64) 3 (ZbN b) w zs (.returned (.slice (some ⟨b,o,none⟩) (n-1) c)) ((w.drew.setRow b cur1).setRow b cur2):=by
    intro cur1 hs1 ht1;have hb1:(w.drew.setRow b cur1).heap[b]? =some (.cells cur1 3 (0,0)):=setRow_heap w.drew b cur cur1 _ _ hb;have hl1:cur1.toList.length=cur.size:=by simp[hs1]
    have hzl:(Builtin.zeroCells (Value.int .i64 0).cells 1).toList.length=1:=by rw[Array.length_toList,size_zeroCells];rfl
    refine⟨_,fun dc=>ZbK (P:=Tryz.prog) underlying42 ZoJ hb1 (by omega) (by rw[hs1];show _+1*1≤_;omega) (ZdL 1),?_⟩;refine⟨_,ZbN b,rfl,.inr ⟨b,o,c,_,?_,rfl,setRow_heap _ b cur1 _ _ _ hb1,?_,hc2,?_,?_⟩,⟨rfl,rfl,rfl,by simp[World.setRow],fun k _ hk=>(setRow_other _ b k _ (fun e=>hk e)).trans (setRow_other w.drew b k _ (fun e=>hk e))⟩,fun b hb=> .inl hb⟩
    · congr 1;rw[hz];simp;omega
    · rw[hz];simp;omega
    · simp only[List.size_toArray,List.length_append,List.length_take,List.length_drop,hl1,hzl]
      show o+c*1≤_+(_- (_+1*1));omega
    · have hzn:zs.length=n-1:=by rw[hz];simp;omega
      rw[hzn,←ht1];show List.take ((n-1)*1) (List.drop o (List.take (o+(n-1)*1) cur1.toList++(Builtin.zeroCells (Value.int .i64 0).cells 1).toList++List.drop (o+(n-1)*1+1*1) cur1.toList))=_;rw[List.append_assoc,List.drop_append,List.length_take,hl1,show o-min (o+(n-1)*1) cur.size=0 by omega,List.drop_zero,List.drop_take];have e3:o+(n-1)*1-o=(n-1)*1:=by omega
      rw[e3];exact List.take_left' (by simp only[List.length_take,List.length_drop,hl1];omega)
  have HAP:=Lib.hid hap;have HCL:=Lib.hid hclr;clear hap hclr hrow hil hdl hcell hcur hb hx hz hlen hc3;have hb2:¬(c=i):=by omega
  have hb3:¬(c=n-1):=by omega
  have hb4:i+1≤n:=by omega
  have hb5:(0:Int)≤(i:Int)+1:=by omega
  have hw1:IntKind.i64.wrap ((i:Int)+1)=(i:Int)+1:=by rw[IntKind.wrap_i64];omega
  have htn:((i:Int)+1).toNat=i+1:=by omega
  have hb6:n- (n-1)=1:=by omega
  have hb7:i≤n:=by omega
  have hb8:n-1≤n:=by omega
  have hb9:i≤c:=by omega
  have hb11:(i:Int)+1≤(n:Int):=by omega
  have hb10:(i:Int)≤(i:Int)+1:=by omega
  by_cases hcc:c=i+1
  · subst hcc
    obtain⟨cur1,hs1,ht1,hr1⟩:=HAP.out (some ⟨b,o,none⟩) 0 0 (by omega) (by intro h;exact absurd rfl h) (by intro _;exact⟨rfl,rfl⟩);obtain⟨cur2,hr2,hp0⟩:=HCL.out cur1 hs1 ht1;simp only[Nat.mul_one]at hr1 hr2;have hp:=Lib.hid hp0;have HR:=Lib.hid hr1;clear hs1 ht1 hp0 hr1 HAP HCL
    go_enter func209,Tryz.ntmps209
    go_wp2
    go_region_law (refine ZaQ rfl _ _ _ _ rfl (by simp[Act.eval,Act.put]) (by simp[Act.eval,Act.put]) HR.out ?_)
    go_wp2
    go_ret
    exact hp.out
  · obtain⟨cur1,hs1,ht1,hr1⟩:=HAP.out (some ⟨b,o+(i+1)*1,none⟩) (n- (i+1)) (c- (i+1)) rfl (by intro _;exact⟨rfl,rfl⟩) (by intro h;exact absurd h hcc)
    obtain⟨cur2,hr2,hp0⟩:=HCL.out cur1 hs1 ht1;simp only[Nat.mul_one]at hr1 hr2;have hp:=Lib.hid hp0;have HR:=Lib.hid hr1;clear hs1 ht1 hp0 hr1 HAP HCL
    go_enter func209,Tryz.ntmps209
    go_wp2
    go_region_law (refine ZaQ rfl _ _ _ _ rfl (by simp[Act.eval,Act.put]) (by simp[Act.eval,Act.put]) HR.out ?_)
    go_wp2
    go_ret
    exact hp.out
theorem Zse (w:World)(F:Nat→Prop)(v:Value)(xs:List Int)(hrow:Row (kE .i64) 3 w F v xs)(i:Nat)(hi:i<xs.length)(hn:xs.length≤1000000000):
  Calls Tryz.prog 209 #[v,.int .i64 i,.int .i64 (i+1)] w (ZaO (kE .i64) 3 F w (xs.take i++xs.drop (i+1))):=by
 rcases hrow with⟨rfl,rfl,rfl⟩|⟨b,o,c,cur,rfl,rfl,hb,hc1,hc2,hc3,hcur⟩
 ·simp at hi
 ·exact Zne w b o c _ cur xs _ i rfl rfl hb hc1 hc2 hc3 hcur hi hn
def Zlr (l:List Int)(id:Int):Int:=match l.findIdx? (fun e=>e==id)with|none=> -1|some i=>(i:Int)
theorem ZhD {l:List Int}{id:Int}(h:∀e∈l,e≠id):Zlr l id= -1:=by
 rw[Zlr,List.findIdx?_eq_none_iff.2 fun e he=>by simpa using h e he]
theorem ZhC {l:List Int}{id:Int}{i:Nat}(he:l[i]? =some id)(hno:∀v e,v<i→l[v]? =some e→e≠id):Zlr l id=i:=by
 have:l.findIdx? (fun e=>e==id)=some i:=by
  obtain⟨hi,rfl⟩:=gSs he;refine List.findIdx?_eq_some_iff_getElem.2 ⟨hi,by simp,fun j hj=>?_⟩;simpa using hno j l[j] hj (gEe _)
 rw[Zlr,this]
theorem ZoF (l:List Int)(id:Int):decide (Zlr l id≥0)=l.contains id:=by
 unfold Zlr;cases h:l.findIdx? (fun e=>e==id)with
 | none=>
  have:=List.findIdx?_eq_none_iff.1 h;have h2:l.contains id=false:=by
   cases c:l.contains id with
   |false=>rfl
   |true=>have:=this id (by simpa using c);simp at this
  rw[h2];rfl
 | some i=>
  obtain⟨h1,h2,_⟩:=List.findIdx?_eq_some_iff_getElem.1 h;have h3:l.contains id=true:=by
   have:l[i]=id:=by simpa using h2
   simp only[List.contains_iff_mem];exact this▸List.getElem_mem h1
  rw[h3];simp
theorem Zm2 (H:List SP)(s:SV Int)(hk:KR H (kE .i64) s)(hl:s.l.length≤1000000)(id:Int):US 247 #[.slice s.a s.l.length s.c,vi id] H (vi (Zlr s.l id)):=by
 refine eG func247 19 ?_;refine Xq<|Xg 1<|Be<|Xq<|Xq<|Xg 3<|Be<|Xb 0 (Xp [(0,.slice s.a s.l.length s.c),(1,vi id),(7,vi (s.l.length:Int)),(8,vi 0)] (Xl0 (fun(v:Nat)=> [(0,.slice s.a s.l.length s.c),(1,vi id),(7,vi (s.l.length:Int)),(8,vi v)]) (fun k (v:Nat)=>k+v=s.l.length∧∀u e,u<v→s.l[u]? =some e→e≠id) s.l.length 0 Kr ⟨by simp,fun u e h=>by omega⟩ ?_));rintro k v ⟨hkv,hno⟩;refine Xq<|Xg 1<|Ce [(0,.slice s.a s.l.length s.c),(1,vi id),(7,vi (s.l.length:Int)),(8,vi v),(9,.bool (decide ((v:Int)< (s.l.length:Int))))]<|Xq (Xc (decide ((v:Int)< (s.l.length:Int))) (fun h1=>?_) (fun h1=>?_))
 ·have hv:=of_decide_eq_true h1;obtain⟨x,hx⟩:∃x,s.l[v]? =some x:=⟨_,gEe (by omega)⟩
  refine PT.know ((hk).isSome (List.ne_nil_of_length_pos (by omega))) ?_;rintro⟨sb,so,hA'⟩
  try rw[hA']
  refine Xk<|Xq<|Xb 1<|Xq<|Xg 2<|Be<|Xq<|Xg 6<|Br 3 3<|Bs 2 (Zav (Xi 42 (.tmp 12) (.tmp 13) sb so s.l.length s.c v 1 3 (v:Int) 14 underlying42))<|Bm [(⟨sb,so+v*1,none⟩,vi x)] (hasC (hk.cell hA' (i:=v) (x:=x) hx (j:=0) rfl) Zaa)<|Xc (id==x) (fun h2=>?_) (fun h2=>?_)
  ·have e2:id=x:=by simpa using h2
   refine Xq<|Xg 2<|Ce [(0,.slice (some ⟨sb,so,none⟩) s.l.length s.c),(1,vi id),(7,vi (s.l.length:Int)),(8,vi v),(4,vi v)]<|Xv (Zae (Zab (Zab (Zae (Zab ?_)))))
   try rw[←hA']
   refine Y0 (vi v) (fun w hs=>?_);exact⟨(),by rw[ZhC (i:=v) (by rw[hx,e2]) hno],hs⟩
  ·have e2:¬id=x:=by simpa using h2
   refine Xk (Xg 2 (Ce [(0,.slice (some ⟨sb,so,none⟩) s.l.length s.c),(1,vi id),(7,vi (s.l.length:Int)),(8,vi (IntKind.i64.wrap ((v:Int)+1)))] ?_))
   try rw[←hA']
   rw[show IntKind.i64.wrap ((v:Int)+1)=((v:Int)+1)by rw[w64 (by omega) (by omega)]];exact gA (k-1) (v+1) (by omega) ⟨by omega,fun u e hu he=>by rcases Nat.lt_succ_iff_lt_or_eq.1 hu with hu|rfl;exact hno u e hu he;rw[hx]at he;cases he;exact fun e=>e2 e.symm⟩
 ·have hv:¬(v:Int)<s.l.length:=of_decide_eq_false h1;exact Xx 0<|Zao<|Zao<|Zax<|Xq<|Xg 1<|Be<|Xv (Y0 (vi (-1)) fun w hs=>⟨(),by rw[ZhD fun e he=>by obtain⟨u,hu⟩:=List.getElem?_of_mem he;exact hno u e (by have:=(gSs hu).1;omega) hu],hs⟩)
theorem ZgA (H:List SP)(s:SV Int)(hk:KR H (kE .i64) s)(hl:s.l.length≤1000000)(id:Int):US 227 #[.slice s.a s.l.length s.c,vi id] H (.bool (s.l.contains id)):=by
 refine eG func227 9 ?_;exact Xq<|Xg 1<|Be<|Xq<|Xg 5<|Br 3 2<|Bs 2 (Xa (some 7) _ (Zm2 _ s hk hl id))<|Be<|Xv (Y0 (.bool (decide ((Zlr s.l id)≥0))) fun w hs=>⟨(),by rw[←ZoF],hs⟩)
theorem Znf (H:List SP)(v:Value)(xs:List Int)(i:Nat)(hi:i<xs.length)(hn:xs.length≤1000000000):
  ∀w,Sat w (row (kE .i64) 3 v xs::H)→Calls Tryz.prog 209 #[v,.int .i64 i,.int .i64 ((i:Int)+1)] w (Ret (ι:=AN) (fun p=> .slice p.1 (xs.take i++xs.drop (i+1)).length p.2) fun p=>row (kE .i64) 3 (.slice p.1 (xs.take i++xs.drop (i+1)).length p.2) (xs.take i++xs.drop (i+1))::H):=
 Ze0 fun w F hr _=>Zse w F v xs hr i hi hn
structure Oz where
 c:Int
 a:Option Addr
 k:Nat
 l:List Int
def obE :Enc Oz:=⟨2,by decide,fun z=> [.int .i64 z.c,.slice z.a z.l.length z.k],fun _=>rfl,by intro a u hu;simp at hu;rcases hu with rfl|rfl<;>rfl⟩
def obF (z:Oz):Ob:=(z.c,z.l)
def ozR (z:Oz):SP:=row (kE .i64) 3 (.slice z.a z.l.length z.k) z.l
def obL (Z:List Oz):List SP:=Z.map ozR
def obX (Z:List Oz)(j:Nat):List SP:=(obL Z).eraseIdx j
def ZcC (b:Nat)(O:List Ob):SP:=exS fun Z:List Oz=>two (Zcl (Z.map obF=O∧Z.length=4)) (Zaz (row obE 247 (.slice (some ⟨b,0,none⟩) 4 4) Z::obL Z))
theorem Sat.openObs {b:Nat}{O:List Ob}{H:List SP}{w:World}(h:Sat w (ZcC b O::H)):∃Z:List Oz,Z.map obF=O∧Z.length=4∧Sat w (row obE 247 (.slice (some ⟨b,0,none⟩) 4 4) Z::(obL Z++H)):=by
 obtain⟨Z,h⟩:=Sat.openEx h;obtain⟨⟨h1,h2⟩,h⟩:=Sat.openPure (Sat.openTwo h);exact⟨Z,h1,h2,Sat.openMany h⟩
theorem Sat.closeObs {b:Nat}{O:List Ob}{Z:List Oz}{H:List SP}{w:World}(h1:Z.map obF=O)(h2:Z.length=4)(h:Sat w (row obE 247 (.slice (some ⟨b,0,none⟩) 4 4) Z::(obL Z++H))):Sat w (ZcC b O::H):=
 Sat.closeEx Z (Sat.closeTwo (Sat.closePure ⟨h1,h2⟩ (Sat.closeMany (l:=row obE 247 (.slice (some ⟨b,0,none⟩) 4 4) Z::obL Z) h)))
theorem ZjT {α:Type}{a:α}:∀{l:List α} {i:Nat},l[i]? =some a→(a::l.eraseIdx i).Perm l
 | [],i,h=>by simp at h
 |x::l,0,h=>by simp at h;subst h;exact List.Perm.refl _
 |x::l,i+1,h=>(List.Perm.swap _ _ _).trans ((ZjT (l:=l) (i:=i) (by simpa using h)).cons x)
theorem Zms {Z:List Oz}{j:Nat}{z:Oz}(hz:Z[j]? =some z)(H:List SP):(obL Z++H)[j]? =some (ozR z):=by
 have h1:(obL Z)[j]? =some (ozR z):=by rw[obL,List.getElem?_map,hz];rfl
 obtain⟨h2,_⟩:=gSs h1;rw[List.getElem?_append_left h2,h1]
theorem Zmr {Z:List Oz}{j:Nat}{z:Oz}(hz:Z[j]? =some z)(P:SP)(H:List SP):KR (P::(obL Z++H)) (kE .i64) ⟨z.a,z.k,z.l⟩:=Zad (j+1) (by rw[List.getElem?_cons_succ];exact Zms hz H)
theorem Zqo (Z:List Oz)(j:Nat)(z:Oz):obX (Z.set j z) j=obX Z j:=by
 rw[obX,obX,obL,obL,List.map_set,List.eraseIdx_set_eq]
theorem Zph {Z:List Oz}{j:Nat}{z:Oz}(hz:Z[j]? =some z){P:SP}{H:List SP}{w:World}(h:Sat w (P::(obL Z++H))):Sat w (ozR z::P::(obX Z j++H)):=by
 have h1:=Sat.pick (j+1) (P:=ozR z) (by rw[List.getElem?_cons_succ];exact Zms hz H) h;have h2:(obL Z)[j]? =some (ozR z):=by rw[obL,List.getElem?_map,hz];rfl
 obtain⟨h3,_⟩:=gSs h2;rw[List.eraseIdx_cons_succ,List.eraseIdx_append_of_lt_length h3]at h1;exact h1
theorem obPut {Z:List Oz}{j:Nat}(hj:j<Z.length)(z:Oz){P:SP}{H:List SP}{w:World}(h:Sat w (ozR z::P::(obX Z j++H))):Sat w (P::(obL (Z.set j z)++H)):=by
 have hz:(obL (Z.set j z))[j]? =some (ozR z):=by rw[obL,List.getElem?_map,List.getElem?_set_self hj];rfl
 obtain⟨h3,h4⟩:=gSs hz;have hp:(ozR z::P::(obX Z j++H)).Perm (P::(obL (Z.set j z)++H)):=by
  refine(List.Perm.swap _ _ _).trans (List.Perm.cons _ ?_);rw[←List.cons_append];refine List.Perm.append_right _ ?_;rw[←Zqo Z j z,obX];exact ZjT hz
 exact Sat.perm hp h
def ZhZ (Z:List Oz)(id:Int):Int:=match Z.findIdx? (fun z=>z.l.contains id)with|none=> -1|some i=>(i:Int)
theorem Zlu {Z:List Oz}{id:Int}(h:∀z∈Z,z.l.contains id=false):ZhZ Z id= -1:=by
 rw[ZhZ,List.findIdx?_eq_none_iff.2 h]
theorem Zlt {Z:List Oz}{id:Int}{i:Nat}{z:Oz}(hz:Z[i]? =some z)(hc:z.l.contains id=true)(hno:∀v z,v<i→Z[v]? =some z→z.l.contains id=false):ZhZ Z id=i:=by
 have:Z.findIdx? (fun z=>z.l.contains id)=some i:=by
  obtain⟨hi,rfl⟩:=gSs hz;refine List.findIdx?_eq_some_iff_getElem.2 ⟨hi,hc,fun j hj=>?_⟩;rw[hno j Z[j] hj (gEe _)];decide
 rw[ZhZ,this]
theorem wtsZ_cases (Z:List Oz)(id:Int):(ZhZ Z id= -1∧Zc3 (Z.map obF) id=false)∨∃(i:Nat) (z:Oz),ZhZ Z id=i∧Z[i]? =some z∧z.l.contains id=true∧Zc3 (Z.map obF) id=true:=by
 have hany:Zc3 (Z.map obF) id=Z.any fun z=>z.l.contains id:=by rw[Zc3,List.any_map];rfl
 rw[hany];unfold ZhZ;cases h:Z.findIdx? (fun z=>z.l.contains id)with
 |none=>
  refine .inl ⟨rfl,?_⟩;rw[List.any_eq_false];intro z hz;rw[List.findIdx?_eq_none_iff.1 h z hz];decide
 |some i=>
  obtain⟨h1,h2,_⟩:=List.findIdx?_eq_some_iff_getElem.1 h;exact .inr ⟨i,Z[i],rfl,gEe h1,h2,List.any_eq_true.2 ⟨Z[i],List.getElem_mem h1,h2⟩⟩
theorem ZfD (H:List SP)(b:Nat)(Z:List Oz)(id:Int)(hZ:Z.length=4)(hl:∀z∈Z,z.l.length≤1000000):US 203 #[vp b,vi id] (row obE 247 (.slice (s0 b) 4 4) Z::(obL Z++H)) (vi (ZhZ Z id)):=by
 refine eG func203 20 ?_;refine Xq (Xg 1 (Be ?_));refine ZcW 0 (fun(u:Nat)=> [(0,vp b),(1,vi id),(5,vi u)]) (fun _=>(row obE 247 (.slice (s0 b) 4 4) Z::(obL Z++H))) (fun k (u:Nat)=>k+u=4∧∀v z,v<u→Z[v]? =some z→z.l.contains id=false) Kr Kr Kr Kr ?_ ?_
 ·rintro k u ⟨hku,hno⟩ K hK;refine Xq<|Xq<|Xg 2<|Be<|Xc ((u:Int)==4) (fun h1=>?_) (fun h1=>?_)
  ·have hu0:(u:Int)=4:=eq_of_beq h1;exact Xq<|Xg 1<|Be<|Xv (Zab (ZcR (Y0 (vi (-1)) fun w hs=>⟨(),by rw[Zlu fun z hz=>by obtain⟨v,hv⟩:=List.getElem?_of_mem hz;exact hno v z (by have:=(gSs hv).1;omega) hv],hs⟩)))
  ·have hu0:¬(u:Int)=4:=beq_eq_false_iff_ne.1 h1;obtain⟨z,hz⟩:∃z,Z[u]? =some z:=⟨_,gEe (by omega)⟩
   refine Xk<|Xq<|Xq<|Xg 9<|Br 5 4<|Bs 4 (Zav (Xj 245 (.tmp 11) (.tmp 9) b 0 4 u 2 244 (u:Int) 12 underlying245))<|Bl 1 3 [(⟨b,0+u*2+1,none⟩,.slice z.a z.l.length z.k)] (hasC (Zac (E:=obE) (xs:=Z) 0 rfl (x:=z) hz (j:=1) rfl) Zaa)<|Bs 0 (Xa (some 16) _ (ZgA (row obE 247 (.slice (s0 b) 4 4) Z::(obL Z++H)) ⟨z.a,z.k,z.l⟩ (Zmr hz _ _) (hl z (gMm hz)) id))<|endR<|Xc (z.l.contains id) (fun h2=>?_) (fun h2=>?_)
   ·exact Xq<|Xg 2<|Be<|Xv (Zab (ZcR (Y0 (vi u) fun w hs=>⟨(),by rw[Zlt hz h2 hno],hs⟩)))
   ·refine Xk (Xq (Xg 3 (Ce [(0,vp b),(1,vi id),(5,vi (IntKind.i64.wrap ((u:Int)+1)))] ?_)));refine Zep 0 Kr Kr ?_;rw[show IntKind.i64.wrap ((u:Int)+1)=((u:Int)+1)by rw[w64 (by omega) (by omega)]];exact Xp _ (Zen (hK (k-1) (u+1) (by omega) ⟨by omega,fun v y hv hy=>by rcases Nat.lt_succ_iff_lt_or_eq.1 hv with hv|rfl;exact hno v y hv hy;rw[hz]at hy;cases hy;exact h2⟩))
 ·intro K hK;refine Xq<|Xg 1<|Be<|Xq ?_;refine ZcY Kr ?_;refine Xp [(0,vp b),(1,vi id),(5,vi 0)] ?_;refine ZeC Kr (hK 4 0 ⟨by omega,fun v z h=>by omega⟩)
theorem Zhg (H:List SP)(j:Int):US 208 #[vi j] H (.bool (Zff j)):=by
 refine eG func208 9 ?_;refine Xq<|Xg 1<|Be<|Xq (Xg 7 (Cr 4 3 [(0,vi j),(2,.bool false),(5,.bool (decide (j≥0)))] ?_));refine(Xs0 1 3 [(2,.bool false),(8,.bool ((decide (j≥0))&& (decide (j<4))))] ?_ ?_:RT _ _ _ _ _ _ 4 _)
 ·cases hg3:(decide (j≥0))with
  |true=>
   refine Ae 3 ?_;exact mA ()
  |false=>
   refine Ae 3 ?_;exact mA ()
 exact Be<|Xv (Y0 (.bool ((decide (j≥0))&& (decide (j<4)))) fun w hs=>⟨(),rfl,hs⟩)
theorem ZjO {j:Int}(h:Zff j=true):∃u:Nat,u<4∧j=(u:Int):=by
 simp[Zff]at h;exact⟨j.toNat,by omega,by omega⟩
theorem ZrI {Z:List Oz}{u:Nat}{z:Oz}(hz:Z[u]? =some z)(c:Int):obL (Z.set u {z with c:=c})=obL Z:=by
 refine List.ext_getElem? fun i=>?_
 rw[obL,obL,List.getElem?_map,List.getElem?_map,List.getElem?_set];split
 ·rename_i h
  subst h;obtain⟨h1,h2⟩:=gSs hz;rw[if_pos h1,hz];rfl
 ·rfl
theorem Zpi {Z:List Oz}{u:Nat}{z:Oz}(hz:Z[u]? =some z):Zcq (Z.map obF) (u:Int)=(z.c,z.l):=by
 rw[Zcq,List.getD_eq_getElem?_getD,Int.toNat_natCast,List.getElem?_map,hz];rfl
theorem ZlD (H:List SP)(b:Nat)(Z:List Oz)(id j:Int)(hZ:Z.length=4)(hl:∀z∈Z,z.l.length≤1000000)(hc:∀z∈Z,0≤z.c∧z.c≤255):U1 183 #[vp b,vi id,vi j] (row obE 247 (.slice (s0 b) 4 4) Z::(obL Z++H)) (ι:={Z':List Oz//Z'.map obF=(Zaj (Z.map obF) id j).2∧Z'.length=4}) (fun _=> .tuple #[.bool (Zaj (Z.map obF) id j).1.1,Zal (Zaj (Z.map obF) id j).1.2]) fun x=>row obE 247 (.slice (s0 b) 4 4) x.1::(obL x.1++H):=by
 refine eG func183 56 ?_;refine Xq<|Xg 2<|Be<|Xq<|Xb 0<|Xq<|Xg 4<|Br 3 1<|Bs 2 (Xa (some 10) _ (Zhg _ j))<|Ce [(0,vp b),(1,vi id),(2,vi j),(6,.bool false),(7,.nilIface),(8,.bool (!(Zff j)))] ?_;cases hj:(Zff j)with
 | true=>
  refine cF<|Xq<|Xg 5<|Br 3 2<|Bs 2 (Xa (some 16) _ (ZfD _ b Z id hZ hl))<|Ce [(0,vp b),(1,vi id),(2,vi j),(6,.bool false),(7,.nilIface),(13,.bool (decide ((ZhZ Z id)≥0)))] ?_;obtain⟨u,hu4,rfl⟩:=ZjO hj;obtain⟨z,hz⟩:∃z,Z[u]? =some z:=⟨_,gEe (by omega)⟩
  have hzm:=gMm hz;have hat:=Zpi hz;refine Xc (decide ((ZhZ Z id)≥0)) (fun h2=>?_) (fun h2=>?_)
  ·have hh:Zc3 (Z.map obF) id=true:=by rcases wtsZ_cases Z id with⟨e,_⟩|⟨i,y,e,_,_,r⟩;rw[e]at h2;simp at h2;exact r
   have he:Zaj (Z.map obF) id (u:Int)=((false,20),Z.map obF):=by rw[Zaj,if_neg (by rw[hj];simp),if_pos hh]
   exact Xq<|Xg 3<|Be<|Xv (Zae (Zab (Y0 (.tuple #[.bool false,.iface 126 (vi 20)]) fun w hs=>⟨⟨Z,by rw[he],hZ⟩,by show Ending.returned _=Ending.returned (.tuple #[.bool (Zaj (Z.map obF) id (u:Int)).1.1,Zal (Zaj (Z.map obF) id (u:Int)).1.2]);rw[he];rfl,hs⟩)))
  ·have hh:¬Zc3 (Z.map obF) id=true:=by rcases wtsZ_cases Z id with⟨_,r⟩|⟨i,y,e,_⟩;rw[r];simp;rw[e]at h2;simp at h2
   refine Xq<|Xg 9<|Br 5 4<|Bs 4 (Zav (Xj 245 (.tmp 23) (.tmp 21) b 0 4 u 2 244 (u:Int) 24 underlying245))<|Bm [(⟨b,0+u*2,none⟩,vi z.c)] (hasC (Zac (E:=obE) (xs:=Z) 0 rfl (x:=z) hz (j:=0) rfl) Zaa)<|Xc (decide (z.c>0)) (fun h3=>?_) (fun h3=>?_)
   ·have hcz:=hc z hzm;have h3':z.c>0:=by simpa using h3
    have he:Zaj (Z.map obF) id (u:Int)=((true,0),(Z.map obF).set u (z.c-1,z.l)):=by rw[Zaj,if_neg (by rw[hj];simp),if_neg hh,hat,if_pos h3',Int.toNat_natCast]
    refine Xq<|Xy0 0 [12] 13<|At' [0,1,2,3,8,9] [] Zaa<|Xu 4 (Xj 245 (.tmp 31) (.tmp 29) b 0 4 u 2 244 (u:Int) 32 underlying245)<|At' [5,6,7] [(⟨b,0+u*2,none⟩,vi z.c)] (hasC (Zac (E:=obE) (xs:=Z) 0 rfl (x:=z) hz (j:=0) rfl) Zaa)<|Xu 10 (Xj 245 (.tmp 37) (.tmp 29) b 0 4 u 2 244 (u:Int) 38 underlying245)<|Xt [11] [(0,vp b),(1,vi id),(2,vi u),(6,.bool false),(7,.nilIface),(35,vi (IntKind.i64.wrap (z.c-1))),(39,.pointer (sA b (0+u*2)))] [] Zaa ?_;rw[show IntKind.i64.wrap (z.c-1)=(z.c-1)by rw[w64 (by omega) (by omega)]];exact Yo 12 (ZdU (E:=obE) (J:=u) (j:=0) z ({z with c:=z.c-1}) (.int .i64 (z.c-1)) ⟨b,0+u*2,none⟩ (fun _=>Kr) (by first|rfl|simp) (hz) (rfl) (by decide))<|Xd<|Xq<|Xg 2<|Be<|Xv (Zae (Zab (Y0 (.tuple #[.bool true,.nilIface]) fun w hs=>⟨⟨Z.set u {z with c:=z.c-1},by rw[he,List.map_set];rfl,by rw[List.length_set,hZ]⟩,by show Ending.returned _=Ending.returned (.tuple #[.bool (Zaj (Z.map obF) id (u:Int)).1.1,Zal (Zaj (Z.map obF) id (u:Int)).1.2]);rw[he];rfl,by simp only;rw[ZrI hz];exact hs⟩)))
   ·have h3':¬z.c>0:=by simpa using h3
    have he:Zaj (Z.map obF) id (u:Int)=((false,0),(Z.map obF).set u (z.c,z.l++[id])):=by rw[Zaj,if_neg (by rw[hj];simp),if_neg hh,hat,if_neg h3',Int.toNat_natCast]
    refine PT.sat (fun w hs=>Zph hz hs) ?_;exact Xk<|Xq<|Xy0 1 [16] 17<|At' [0,1,2,3,4,5,9,12,13] [] Zaa<|Xu 6 (Xj 245 (.tmp 45) (.tmp 43) b 0 4 u 2 244 (u:Int) 46 underlying245)<|At' [7,8] [(⟨b,0+u*2+1,none⟩,.slice z.a z.l.length z.k)] (hasC (Zac (E:=obE) (xs:=Z) 0 rfl (x:=z) hz (j:=1) rfl) Zaa)<|Xo 10 (Xn 3 [vi id] (some 50) (fun b=> .slice (s0 b) 1 1)) fun b1=>DT.pick 1 rfl<|Xo 11 (Xf (E:=(kE .i64)) 42 (.tmp 48) (.tmp 50) z.a z.k z.l [id] (.slice (s0 b1) 1 1) 51 underlying42 (ZoJ) (Zbr (x:=id) 1 rfl) (by have:=hl z hzm;simp;omega)) fun r2=>Xu 14 (Xj 245 (.tmp 53) (.tmp 41) b 0 4 u 2 244 (u:Int) 54 underlying245)<|At' [15] [] Zaa<|DT.pick 2 rfl<|Yo 16 (ZdU (E:=obE) (J:=u) (j:=1) z ({z with a:=r2.1,k:=r2.2,l:=z.l++[id]}) (.slice r2.1 ((z.l++[id]).length) r2.2) ⟨b,0+u*2+1,none⟩ (fun _=>Kr) (by first|rfl|simp) (hz) (rfl) (by decide))<|Xd<|Xq<|Xg 2<|Be<|Xv (Y0 (.tuple #[.bool false,.nilIface]) fun w hs=>⟨⟨Z.set u {z with a:=r2.1,k:=r2.2,l:=z.l++[id]},by rw[he,List.map_set];rfl,by rw[List.length_set,hZ]⟩,by show Ending.returned _=Ending.returned (.tuple #[.bool (Zaj (Z.map obF) id (u:Int)).1.1,Zal (Zaj (Z.map obF) id (u:Int)).1.2]);rw[he];rfl,obPut (Z:=Z) (j:=u) (by omega) {z with a:=r2.1,k:=r2.2,l:=z.l++[id]} (P:=row obE 247 (.slice (s0 b) 4 4) (Z.set u {z with a:=r2.1,k:=r2.2,l:=z.l++[id]})) (H:=H) (SatF.swap (Sat.erase 2 rfl hs))⟩)
 |false=>
  have he:Zaj (Z.map obF) id j=((false,10),Z.map obF):=by rw[Zaj,if_pos hj]
  exact cT<|Xq<|Xg 3<|Be<|Xv (Zae (Zab (Y0 (.tuple #[.bool false,.iface 126 (vi 10)]) fun w hs=>⟨⟨Z,by rw[he],hZ⟩,by show Ending.returned _=Ending.returned (.tuple #[.bool (Zaj (Z.map obF) id j).1.1,Zal (Zaj (Z.map obF) id j).1.2]);rw[he];rfl,hs⟩)))
theorem Zig (H:List SP)(b:Nat)(Z:List Oz)(j:Int)(hZ:Z.length=4)(hl:∀z∈Z,z.l.length≤1000000)(hc:∀z∈Z,0≤z.c∧z.c≤255):U1 184 #[vp b,vi j] (row obE 247 (.slice (s0 b) 4 4) Z::(obL Z++H)) (ι:={Z':List Oz//Z'.map obF=(Zay (Z.map obF) j).2∧Z'.length=4}) (fun _=> .tuple #[vi (Zay (Z.map obF) j).1.1,.bool (Zay (Z.map obF) j).1.2.1,Zal (Zay (Z.map obF) j).1.2.2]) fun x=>row obE 247 (.slice (s0 b) 4 4) x.1::(obL x.1++H):=by
 refine eG func184 48 ?_;refine Xq<|Xg 3<|Be<|Xq<|Xq<|Xg 3<|Br 2 1<|Bs 1 (Xa (some 10) _ (Zhg _ j))<|Ce [(0,vp b),(1,vi j),(4,vi 0),(5,.bool false),(6,.nilIface),(11,.bool (!(Zff j)))] ?_;cases hj:(Zff j)with
 | true=>
  obtain⟨u,hu4,rfl⟩:=ZjO hj;obtain⟨z,hz⟩:∃z,Z[u]? =some z:=⟨_,gEe (by omega)⟩
  have hzm:=gMm hz;have hat:=Zpi hz;have hcz:=hc z hzm;refine cF<|Xk<|Xq<|Xg 6<|Br 2 4<|Bs 1 (Zav (Xj 245 (.tmp 16) (.tmp 14) b 0 4 u 2 244 (u:Int) 17 underlying245))<|Be<|Xq<|Xq<|Xg 6<|Cm [(4,vi 0),(5,.bool false),(6,.nilIface),(7,.pointer (sA b (0+u*2))),(23,.bool ((z.l.length:Int)==0))] [(⟨b,0+u*2+1,none⟩,.slice z.a z.l.length z.k)] (hasC (Zac (E:=obE) (xs:=Z) 0 rfl (x:=z) hz (j:=1) rfl) Zaa)<|Xc ((z.l.length:Int)==0) (fun h2=>?_) (fun h2=>?_)
  ·have hl0:z.l=[]:=List.eq_nil_of_length_eq_zero (by have:=eq_of_beq h2;omega);have he:Zay (Z.map obF) (u:Int)=((0,false,0),(Z.map obF).set u (mnI (z.c+1) 255,[])):=by rw[Zay,if_neg (by rw[hj];simp),hat,hl0];simp
   refine Xq (Xg 10 (Cl 1 9 [(4,vi 0),(5,.bool false),(6,.nilIface),(7,.pointer (sA b (0+u*2))),(30,vi (mnI (IntKind.i64.wrap (z.c+1)) 255)),(32,.pointer (sA b (0+u*2)))] [(⟨b,0+u*2,none⟩,vi z.c)] (hasC (Zac (E:=obE) (xs:=Z) 0 rfl (x:=z) hz (j:=0) rfl) Zaa) ?_));rw[show IntKind.i64.wrap (z.c+1)=(z.c+1)by rw[w64 (by omega) (by omega)]];exact Bs 0 (ZdU (E:=obE) (J:=u) (j:=0) z ({z with c:=mnI (z.c+1) 255}) (.int .i64 (mnI (z.c+1) 255)) ⟨b,0+u*2,none⟩ (fun _=>Kr) (by first|rfl|simp) (hz) (rfl) (by decide))<|endR<|Xq<|Xg 3<|Be<|Xv (Zab (Y0 (.tuple #[vi 0,.bool false,.nilIface]) fun w hs=>⟨⟨Z.set u {z with c:=mnI (z.c+1) 255},by rw[he,List.map_set];simp[obF,hl0],by rw[List.length_set,hZ]⟩,by show Ending.returned _=Ending.returned (.tuple #[.int .i64 (Zay (Z.map obF) (u:Int)).1.1,.bool (Zay (Z.map obF) (u:Int)).1.2.1,Zal (Zay (Z.map obF) (u:Int)).1.2.2]);rw[he];rfl,by simp only;rw[ZrI hz];exact hs⟩))
  ·have hl0:¬(z.l.length:Int)=0:=beq_eq_false_iff_ne.1 h2;have hlz:=hl z hzm;obtain⟨zc,za,zk,zl⟩:=z;dsimp only at hl0 hlz hat;dsimp only;obtain⟨x,r,hxr⟩:∃x r,zl=x::r:=List.exists_cons_of_length_pos (by omega);have hx0:zl[0]? =some x:=by rw[hxr];rfl
   have he:Zay (Z.map obF) (u:Int)=((x,true,0),(Z.map obF).set u (zc,zl.take 0++zl.drop (0+1))):=by rw[Zay,if_neg (by rw[hj];simp),hat,hxr];simp
   refine PT.know (KR.isSome (Zmr hz _ _) (List.ne_nil_of_length_pos (by show 0<zl.length;omega))) ?_;rintro⟨sb,so,hA⟩;dsimp only at hA;subst hA;refine PT.sat (fun w hs=>Zph hz hs) ?_;refine Xk<|Xq<|Xg 7<|Bl 3 4 [(⟨b,0+u*2+1,none⟩,.slice (sA sb so) zl.length zk)] (hasC (Zac (E:=obE) (xs:=Z) 1 rfl (x:=⟨zc,some ⟨sb,so,none⟩,zk,zl⟩) hz (j:=1) rfl) Zaa)<|Bs 2 (Zav (Xi 42 (.tmp 36) (.const (.int .i64 0)) sb so zl.length zk 0 1 3 0 37 underlying42))<|Bm [(⟨sb,so+0*1,none⟩,vi x)] (hasC ((Zad (xs:=zl) (A:=some ⟨sb,so,none⟩) (k:=zk) (E:=kE .i64) (T:=3) 0 rfl).cell rfl (i:=0) (x:=x) hx0 (j:=0) rfl) Zaa)<|Xq<|Xg 9<|Bl 4 5 [(⟨b,0+u*2+1,none⟩,.slice (sA sb so) zl.length zk)] (hasC (Zac (E:=obE) (xs:=Z) 1 rfl (x:=⟨zc,some ⟨sb,so,none⟩,zk,zl⟩) hz (j:=1) rfl) Zaa)<|Bx 3 (Xa (some 44) _ (Znf (row obE 247 (.slice (s0 b) 4 4) Z::(obX Z u++H)) (.slice (sA sb so) zl.length zk) zl 0 (by omega) (by omega))) fun(r:AN)=>Br 1 2<|Xh0 ?_ 1 1
   exact Bs 0 (ZdU (E:=obE) (J:=u) (j:=1) ⟨zc,some ⟨sb,so,none⟩,zk,zl⟩ ⟨zc,r.1,r.2,zl.take 0++zl.drop (0+1)⟩ (.slice r.1 ((zl.take 0++zl.drop (0+1)).length) r.2) ⟨b,0+u*2+1,none⟩ (fun _=>Kr) (by first|rfl|simp) (hz) (rfl) (by decide))<|endR<|Xq<|Xg 4<|Be<|Xv (Y0 (.tuple #[vi x,.bool true,.nilIface]) fun w hs=>⟨⟨Z.set u ⟨zc,r.1,r.2,zl.take 0++zl.drop (0+1)⟩,by rw[he,List.map_set];rfl,by rw[List.length_set,hZ]⟩,by show Ending.returned _=Ending.returned (.tuple #[.int .i64 (Zay (Z.map obF) (u:Int)).1.1,.bool (Zay (Z.map obF) (u:Int)).1.2.1,Zal (Zay (Z.map obF) (u:Int)).1.2.2]);rw[he];rfl,obPut (Z:=Z) (j:=u) (by omega) ⟨zc,r.1,r.2,zl.take 0++zl.drop (0+1)⟩ (P:=row obE 247 (.slice (s0 b) 4 4) (Z.set u ⟨zc,r.1,r.2,zl.take 0++zl.drop (0+1)⟩)) (H:=H) (SatF.swap hs)⟩)
 |false=>
  have he:Zay (Z.map obF) j=((0,false,10),Z.map obF):=by rw[Zay,if_pos hj]
  exact cT<|Xq<|Xg 4<|Be<|Xv (Zab (Y0 (.tuple #[vi 0,.bool false,.iface 126 (vi 10)]) fun w hs=>⟨⟨Z,by rw[he],hZ⟩,by show Ending.returned _=Ending.returned (.tuple #[.int .i64 (Zay (Z.map obF) j).1.1,.bool (Zay (Z.map obF) j).1.2.1,Zal (Zay (Z.map obF) j).1.2.2]);rw[he];rfl,hs⟩))
namespace G
section
variable {α :Type}{E:Enc α}{T:TypeId}{H:List SP}{P:Program}{n:Nat}{L:List (Nat×Value)}{c:Code}
theorem Zlo {S:World→Prop}{i:Nat}(t:TypeId)(x:Operand)(lo hi:Option Operand)(A:Option Addr)(len cap l h sz:Nat)(e:TypeId)(d:Option Tmp)(hg:∀rest,Zcc n c i L rest=true)(hd:(Za5 c i).dst=d)(hop:(Za5 c i).op= .slice t x lo hi none)
  (hx:∀rest,ZaD L rest x= .slice A len cap) (hl:(lo=none∧l=0)∨∃o k j,lo=some o∧(∀rest,ZaD L rest o= .int k j)∧j=(l:Int)) (hh:(hi=none∧h=len)∨∃o k j,hi=some o∧(∀rest,ZaD L rest o= .int k j)∧j=(h:Int))
  (hu:P.underlying t=some (.slice e)) (hsz:(P.info? e).map (·.size)=some sz) (h1:l≤h) (h2:h≤cap):Yld P n L S c i d (.slice (ZbC A cap l sz) (h-l) (cap-l)):=by
 refine⟨hg,hd,fun rest w _ _=>?_⟩;have hi':∃q,P.info? e=some q∧q.size=sz:=by
  cases hq:P.info? e with
  |none=>rw[hq]at hsz;cases hsz
  |some q=>rw[hq]at hsz;exact⟨q,rfl,by simpa using hsz⟩
 obtain⟨q,hq,hqs⟩:=hi';unfold execOp;rcases hl with⟨rfl,rfl⟩|⟨o,k,j,rfl,ho,rfl⟩<;>rcases hh with⟨rfl,rfl⟩|⟨o',k',j',rfl,ho',rfl⟩
 ·simp only[hop,Option.map_none,hx rest]
  simp[ZbC,Instr.sliceAt,Instr.slice,Instr.sliceBounds,Instr.sliceBound,asIntOf,run_underlying hu,sizeOf,typeInfo,hq,hqs,h1,h2]
 ·simp only[hop,Option.map_none,Option.map_some,hx rest,ho' rest]
  simp[ZbC,Instr.sliceAt,Instr.slice,Instr.sliceBounds,Instr.sliceBound,asIntOf,run_underlying hu,sizeOf,typeInfo,hq,hqs,h1,h2]
 ·simp only[hop,Option.map_none,Option.map_some,hx rest,ho rest]
  simp[ZbC,Instr.sliceAt,Instr.slice,Instr.sliceBounds,Instr.sliceBound,asIntOf,run_underlying hu,sizeOf,typeInfo,hq,hqs,h1,h2]
 ·simp only[hop,Option.map_none,Option.map_some,hx rest,ho rest,ho' rest]
  simp[ZbC,Instr.sliceAt,Instr.slice,Instr.sliceBounds,Instr.sliceBound,asIntOf,run_underlying hu,sizeOf,typeInfo,hq,hqs,h1,h2]
theorem Zkh {A :Option Addr} {cap:Nat} {xs:List α} (h:KR H E ⟨A,cap,xs⟩) {l hh:Nat} (h1:l≤hh) (h2:hh≤xs.length):∀w,Sat w H→Rd E w (.slice (ZbC A cap l E.k) (hh-l) (cap-l)) ((xs.take hh).drop l):=by
  intro w hs;obtain⟨ao,c',hv,a1,a2,a3,a4⟩:=h w hs;unfold SV.v at hv;simp only at hv;injection hv with e1 _ e3;subst e1 e3;have hlen:((xs.take hh).drop l).length=hh-l:=by simp;omega
  refine⟨ZbC A cap l E.k,cap-l,by rw[hlen],by rw[hlen];simp only at a1;omega,by omega,fun hn=>?_,fun a ha j u hu=>?_⟩
  · cases A with
    |none=>obtain⟨b1,b2⟩:=a3 rfl;simp only at b1;subst b1;exact⟨by simp,by omega⟩
    |some a=>unfold ZbC at hn;split at hn<;>cases hn
  · cases A with
    |none=>unfold ZbC at ha;split at ha<;>cases ha
    | some a0=>
      have hlt:j< (E.flat ((xs.take hh).drop l)).length:=(gSs hu).1;rw[E.flat_length,hlen]at hlt;have hne:cap≠l:=fun e=>by
        simp only at a1;have:hh-l=0:=by omega
        rw[this]at hlt;omega
      unfold ZbC at ha;rw[if_neg hne]at ha;simp only[Option.map_some,Option.some.injEq]at ha;subst ha;rw[Znx];refine a4 a0 rfl _ u ?_;simp only;rw[←Enc.flat_drop,List.getElem?_drop,←Enc.flat_take,List.getElem?_take]at hu;split at hu
      · exact hu
      · cases hu
theorem dropRd {A:Option Addr}{cap:Nat}{xs:List α}(h:KR H E ⟨A,cap,xs⟩){l:Nat}(h1:l≤xs.length):∀w,Sat w H→Rd E w (.slice (ZbC A cap l E.k) (xs.length-l) (cap-l)) (xs.drop l):=by
 have:=Zkh h h1 (Nat.le_refl _)
 rwa[List.take_length]at this
def Zo2 (E:Enc α):α→List (Nat×Value)→α→Prop
 |x,[],x'=>x=x'
 |x,q::ws,x'=>∃y,(E.enc y=(E.enc x).set q.1 q.2∧Nat.ble (q.1+1) E.k=true)∧Zo2 E y ws x'
theorem ZsG {i b o m k J:Nat} {xs:List α} (x x':α) (ws:List (Nat×Value)) (h:∀rest,storesOk P n c i L rest=some (ws.map fun q=>(⟨b,o+J*E.k+q.1,none⟩,q.2))) (hx:xs[J]? =some x) (he:Zo2 E x ws x'):
    Step (ι:=Unit) P n L (row E T (.slice (some ⟨b,o,none⟩) m k) xs::H) c i none (fun _=>undef) (fun _=>row E T (.slice (some ⟨b,o,none⟩) m k) (xs.set J x')::H):=by
  refine skipS _ (fun rest=>(Za8 (h rest)).1) (Za8 (h fun _=>undef)).2.1 ?_;intro rest w _ hs;obtain⟨G,hG⟩:=hs.head;have hme:m=xs.length:=hG.lenEq;subst hme;have hlx:J<xs.length:=(gSs hx).1;have hks:∀(ws:List (Nat×Value)) (x:α),Zo2 E x ws x'→∀q∈ws,q.1<E.k:=by
    intro ws;induction ws with
    |nil=>intro x _ q hq;cases hq
    | cons z ws ih=>
      rintro x ⟨y,⟨_,h2⟩,h3⟩ q hq;rcases List.mem_cons.1 hq with rfl|hq
      · exact Nat.le_of_ble_eq_true h2
      · exact ih y h3 q hq
  refine⟨_,Zdz _ (Za8 (h rest)).2.2 ?_,?_⟩
  · intro q hq
    obtain⟨z,hz,rfl⟩:=List.mem_map.1 hq;refine⟨?_,hG.frozen rfl _⟩;have hr:Rd E w _ xs:=hG.rd;obtain⟨b',o',k',hv,_,_,hc⟩:=hr.at (i:=J) hlx;cases hv;have hjl:z.1< (E.enc x).length:=by rw[E.len];exact hks ws x he z hz
    simp only;rw[hc J z.1 x _ hx (gEe hjl)];rfl
  · have key:∀(ws:List (Nat×Value)) (w:World) (x:α) (ys:List α),Sat w (row E T (.slice (some ⟨b,o,none⟩) ys.length k) ys::H)→ys[J]? =some x→Zo2 E x ws x'→Sat (ZfJ w (ws.map fun q=>(⟨b,o+J*E.k+q.1,none⟩,q.2))) (row E T (.slice (some ⟨b,o,none⟩) ys.length k) (ys.set J x')::H):=by
      intro ws;induction ws with
      | nil=>
        intro w x ys hs hy he;have e:x=x':=he;subst e;have:ys.set J x=ys:=by
          apply List.ext_getElem?;intro i;rw[List.getElem?_set];split
          · rename_i e;subst e;rw[if_pos (gSs hy).1,hy]
          · rfl
        rw[this];exact hs
      | cons q ws ih=>
        rintro w x ys hs hy ⟨y,⟨h1,h2⟩,h3⟩;have hjl:J<ys.length:=(gSs hy).1;have hs2:Sat (w.setCell ⟨b,o+J*E.k+q.1,none⟩ q.2) (row E T (.slice (some ⟨b,o,none⟩) ys.length k) (ys.set J y)::H):=by
          refine Sat.change hs fun G' hG'=>?_
          refine⟨?_,G',Row.set hG' hy h1 (Nat.le_of_ble_eq_true h2),fun x hx=> .inl hx⟩;rcases hG' with⟨hv,_,_⟩|⟨b',o',c',cur,hv,hF,_⟩
          · cases hv
          · cases hv
            exact Upd.setCell w _ _ (by rw[hF];rfl)
        have hl:ys.length=(ys.set J y).length:=by rw[List.length_set]
        have:=ih (w.setCell ⟨b,o+J*E.k+q.1,none⟩ q.2) y (ys.set J y) (by rw[←hl];exact hs2) (by rw[List.getElem?_set_self hjl]) h3;rw[List.set_set,←hl]at this;exact this
    exact key ws w x xs hs hx he
end
end G
namespace G
section
variable {α :Type}{E:Enc α}{T:TypeId}{H:List SP}{P:Program}{n:Nat}{L:List (Nat×Value)}{c:Code}
theorem Ziq {w:World}{b o k:Nat}{cur:Array Value}{xs:List α}{zs:List Value}(hb:w.heap[b]? =some (.cells cur T (0,0)))(hk:xs.length≤k)(hm:k≤maxLen)(hfit:o+k*E.k≤cur.size)(hcur:(cur.toList.drop o).take (xs.length*E.k)=E.flat xs)
  {j:Nat} (hj:j≤xs.length) (hz:zs.length=(xs.length-j)*E.k):Row E T (w.setRow b (cur.toList.take (o+j*E.k)++zs++cur.toList.drop (o+j*E.k+(xs.length-j)*E.k)).toArray) (ZbN b) (.slice (some ⟨b,o,none⟩) j k) (xs.take j):=by
 have hl:(xs.take j).length=j:=by simp;omega
 have hjk:j*E.k≤xs.length*E.k:=Nat.mul_le_mul_right _ hj;have hkk:xs.length*E.k≤k*E.k:=Nat.mul_le_mul_right _ hk;have hsub:(xs.length-j)*E.k=xs.length*E.k-j*E.k:=Nat.sub_mul _ _ _;have hcl:cur.toList.length=cur.size:=by simp
 refine .inr ⟨b,o,k,_,by rw[hl],rfl,setRow_heap w b cur _ _ _ hb,by rw[hl];omega,hm,?_,?_⟩
 ·simp only[List.size_toArray,List.length_append,List.length_take,List.length_drop,hcl,hz];omega
 ·rw[hl]
  show List.take (j*E.k) (List.drop o (List.take (o+j*E.k) cur.toList++zs++List.drop (o+j*E.k+(xs.length-j)*E.k) cur.toList))=_;rw[List.append_assoc,List.drop_append,List.length_take,hcl,show o-min (o+j*E.k) cur.size=0 by omega,List.drop_zero,List.drop_take,show o+j*E.k-o=j*E.k by omega];rw[List.take_left' (by simp only[List.length_take,List.length_drop,hcl];omega),←E.flat_take,←hcur,List.take_take];congr 1;omega
theorem clrS {z:Value}{i:Nat}(t:TypeId)(s:Operand)(b o cap j:Nat)(xs:List α)(hg:∀rest,Zcc n c i L rest=true)(hd:(Za5 c i).dst=none)(hop:(Za5 c i).op= .call {callee:= .builtin .clear,args:= #[s],argTypes:= #[t]})
  (hs:∀rest,ZaD L rest s= .slice (ZbC (some ⟨b,o,none⟩) cap j E.k) (xs.length-j) (cap-j)) (ht:P.underlying t=some (.slice T)) (hE:Ety P E T z) (hj:j<xs.length)
  (h1:∀u∈(Builtin.zeroCells z.cells (xs.length-j)).toList,u.oneCell'=true):
  Step (ι:=Unit) P n L (row E T (.slice (some ⟨b,o,none⟩) xs.length cap) xs::H) c i none (fun _=> .tuple #[]) (fun _=>row E T (.slice (some ⟨b,o,none⟩) j cap) (xs.take j)::H):=by
 refine valueS none _ _ hg hd ?_;intro rest w _ hsat;obtain⟨G,hG⟩:=hsat.head;have hG':=hG;rcases hG with⟨h0,h0',_⟩|⟨b',o',k',cur,hv,rfl,hb,hk,hm,hfit,hcur⟩
 ·cases h0
 cases hv;have hjk:j*E.k≤xs.length*E.k:=Nat.mul_le_mul_right _ (by omega);have hkk:xs.length*E.k≤cap*E.k:=Nat.mul_le_mul_right _ hk;have hsub:(xs.length-j)*E.k=xs.length*E.k-j*E.k:=Nat.sub_mul _ _ _;have hzl:(Builtin.zeroCells z.cells (xs.length-j)).toList.length=(xs.length-j)*E.k:=by rw[Array.length_toList,size_zeroCells,hE.zero]
 have hcl:cur.toList.length=cur.size:=by simp
 have hrun:=ZbK (P:=P) (w:=w) (ty:=(Za5 c i).type) (o:=o+j*E.k) (n:=xs.length-j) (c:=cap-j) ht hE hb (by omega) (by omega) h1;refine⟨(),w.setRow b (cur.toList.take (o+j*E.k)++(Builtin.zeroCells z.cells (xs.length-j)).toList++cur.toList.drop (o+j*E.k+(xs.length-j)*E.k)).toArray,?_,Sat.change hsat fun G' hG2=>?_⟩
 rotate_left
 ·have:=Row.uniq hG2 hG'
  subst this;exact⟨⟨rfl,rfl,rfl,by simp[World.setRow],fun x _ hx=>setRow_other w b x _ (fun e=>hx e)⟩,ZbN b,Ziq hb hk hm hfit hcur (by omega) hzl,fun x hx=> .inl hx⟩
 ·rw[show execOp (ZaD L rest) (Za5 c i)=_ from rfl]
  unfold execOp;have hc:ZbC (some ⟨b,o,none⟩) cap j E.k=some ⟨b,o+j*E.k,none⟩:=by
   unfold ZbC;rw[if_neg (by omega)];simp[Addr.add_lit]
  simp only[hop,resolve,invoke,builtin,Sem.run_bind,Sem.run_pure,Result.andThen_ok,List.map_toArray,List.map_cons,List.map_nil,hs,hc,hrun]
end
end G
theorem Zhy (H:List SP)(n id:Int)(tb j:Nat)(hj:H[j]? =some (blk tb 3 [vi id])):US 205 #[vi n,vp tb] H (.bool (n==id)):=by
 refine eG func205 7 ?_;exact Xq<|Xg 1<|Be<|Xq<|Xg 4<|Bm [(⟨tb,0,none⟩,vi id)] (hasC ((ZaS j hj (j:=0) rfl)) Zaa)<|Xv (Y0 (.bool (n==id)) fun w hs=>⟨(),rfl,hs⟩)
theorem ZoB (H:List SP)(s:SV Int)(hk:KR H (kE .i64) s)(hl:s.l.length≤1000000)(id:Int)(tb j:Nat)(hj:H[j]? =some (blk tb 3 [vi id])):US 228 #[.slice s.a s.l.length s.c,.func (.func 205) #[] #[vp tb]] H (vi (Zlr s.l id)):=by
 refine eG func228 19 ?_;refine Xq<|Xg 1<|Be<|Xq<|Xq<|Xg 3<|Be<|Xb 0 (Xp [(0,.slice s.a s.l.length s.c),(1,.func (.func 205) #[] #[vp tb]),(7,vi (s.l.length:Int)),(8,vi 0)] (Xl0 (fun(v:Nat)=> [(0,.slice s.a s.l.length s.c),(1,.func (.func 205) #[] #[vp tb]),(7,vi (s.l.length:Int)),(8,vi v)]) (fun k (v:Nat)=>k+v=s.l.length∧∀u e,u<v→s.l[u]? =some e→e≠id) s.l.length 0 Kr ⟨by simp,fun u e h=>by omega⟩ ?_));rintro k v ⟨hkv,hno⟩;refine Xq<|Xg 1<|Ce [(0,.slice s.a s.l.length s.c),(1,.func (.func 205) #[] #[vp tb]),(7,vi (s.l.length:Int)),(8,vi v),(9,.bool (decide ((v:Int)< (s.l.length:Int))))]<|Xq (Xc (decide ((v:Int)< (s.l.length:Int))) (fun h1=>?_) (fun h1=>?_))
 ·have hv:=of_decide_eq_true h1;obtain⟨x,hx⟩:∃x,s.l[v]? =some x:=⟨_,gEe (by omega)⟩
  refine PT.know ((hk).isSome (List.ne_nil_of_length_pos (by omega))) ?_;rintro⟨sb,so,hA'⟩
  try rw[hA']
  refine Xk<|Xq<|Xb 1<|Xq<|Xg 2<|Be<|Xq<|Xg 6<|Br 3 3<|Bs 2 (Zav (Xi 42 (.tmp 12) (.tmp 13) sb so s.l.length s.c v 1 3 (v:Int) 14 underlying42))<|Bl 1 1 [(⟨sb,so+v*1,none⟩,vi x)] (hasC (hk.cell hA' (i:=v) (x:=x) hx (j:=0) rfl) Zaa)<|Bs 0 (Xa (some 16) _ (Zhy (H) x id tb j hj))<|endR<|Xc (x==id) (fun h2=>?_) (fun h2=>?_)
  ·have e2:x=id:=by simpa using h2
   refine Xq<|Xg 2<|Ce [(0,.slice (some ⟨sb,so,none⟩) s.l.length s.c),(1,.func (.func 205) #[] #[vp tb]),(7,vi (s.l.length:Int)),(8,vi v),(4,vi v)]<|Xv (Zae (Zab (Zab (Zae (Zab ?_)))))
   try rw[←hA']
   refine Y0 (vi v) (fun w hs=>?_);exact⟨(),by rw[ZhC (i:=v) (by rw[hx,e2]) hno],hs⟩
  ·have e2:¬x=id:=by simpa using h2
   refine Xk (Xg 2 (Ce [(0,.slice (some ⟨sb,so,none⟩) s.l.length s.c),(1,.func (.func 205) #[] #[vp tb]),(7,vi (s.l.length:Int)),(8,vi (IntKind.i64.wrap ((v:Int)+1)))] ?_))
   try rw[←hA']
   rw[show IntKind.i64.wrap ((v:Int)+1)=((v:Int)+1)by rw[w64 (by omega) (by omega)]];exact gA (k-1) (v+1) (by omega) ⟨by omega,fun u e hu he=>by rcases Nat.lt_succ_iff_lt_or_eq.1 hu with hu|rfl;exact hno u e hu he;rw[hx]at he;cases he;exact e2⟩
 ·have hv:¬(v:Int)<s.l.length:=of_decide_eq_false h1;exact Xx 0<|Zao<|Zao<|Zax<|Xq<|Xg 1<|Be<|Xv (Y0 (vi (-1)) fun w hs=>⟨(),by rw[ZhD fun e he=>by obtain⟨u,hu⟩:=List.getElem?_of_mem he;exact hno u e (by have:=(gSs hu).1;omega) hu],hs⟩)
def Zc4 (xs:List Int)(id:Int):List Int:=xs.filter fun n=> !(n==id)
theorem Zeq (xs:List Int)(id x:Int):Zc4 (xs++[x]) id=if x=id then Zc4 xs id else Zc4 xs id++[x]:=by
 unfold Zc4;rw[List.filter_append];by_cases c:x=id<;>simp[c]
theorem Zk9 {xs:List Int}{id:Int}(h:∀e∈xs,e≠id):Zc4 xs id=xs:=List.filter_eq_self.2 fun e he=>by simpa using h e he
theorem ZqI {xs:List Int}{id:Int}(h:id∈xs):∃i:Nat,Zlr xs id=i∧xs[i]? =some id∧∀u e,u<i→xs[u]? =some e→e≠id:=by
 unfold Zlr;cases hf:xs.findIdx? (fun e=>e==id)with
 |none=>have:=List.findIdx?_eq_none_iff.1 hf id h;simp at this
 |some i=>
  obtain⟨h1,h2,h3⟩:=List.findIdx?_eq_some_iff_getElem.1 hf;refine⟨i,rfl,by rw[gEe h1];simpa using h2,fun u e hu he=>?_⟩;obtain⟨h4,rfl⟩:=gSs he;have:=h3 u hu;simpa using this
theorem Zni (b o c k:Nat):ZbC (some ⟨b,o,none⟩) c 0 k=some ⟨b,o,none⟩:=by
 unfold ZbC;split<;>simp[Addr.add_lit]
theorem Zp5 {α:Type}{E:Enc α}{T:TypeId}{H:List SP}{A:Option Addr}{m k:Nat}{xs:List α}:∀w,Sat w (row E T (.slice A m k) xs::H)→xs.length≤k:=fun w hs=>by
 obtain⟨G,hG⟩:=hs.head;rcases hG with⟨h1,rfl,_⟩|⟨b,o,c,cur,h1,_,_,h2,_⟩
 ·simp
 ·cases h1;exact h2
theorem ZdR {xs:List Int}{j:Nat}{x:Int}(h:xs[j]? =some x):xs.take (j+1)=xs.take j++[x]:=by rw[List.take_add_one,h];rfl
theorem Zm9 (H:List SP)(sb so cap:Nat)(xs:List Int)(id:Int)(tb:Nat)(hin:id∈xs)(hl:xs.length≤1000000):U0 204 #[.slice (sA sb so) xs.length cap,.func (.func 205) #[] #[vp tb]] (row (kE .i64) 3 (.slice (sA sb so) xs.length cap) xs::blk tb 3 [vi id]::H) (.slice (sA sb so) (Zc4 xs id).length cap) (row (kE .i64) 3 (.slice (sA sb so) (Zc4 xs id).length cap) (Zc4 xs id)::blk tb 3 [vi id]::H):=by
 obtain⟨i0,hi0,hx0,hno⟩:=ZqI hin;have hi0l:=(gSs hx0).1;have hpre:∀e∈xs.take i0,e≠id:=fun e he=>by
  obtain⟨u,hu⟩:=List.getElem?_of_mem he;rw[List.getElem?_take]at hu;split at hu
  ·exact hno u e (by assumption) hu
  ·cases hu
 refine eG func204 42 ?_;refine PT.know (p:=xs.length≤cap) Zp5 ?_;intro hcap;refine Xq<|Xg 1<|Be<|Xq<|Xg 4<|Cr 2 2 [(0,.slice (sA sb so) xs.length cap),(1,.func (.func 205) #[] #[vp tb]),(4,.slice none 0 0),(8,.slice (sA sb so) xs.length cap),(9,.func (.func 205) #[] #[vp tb])]<|Bs 1 (Xa (some 10) _ (ZoB (row (kE .i64) 3 (.slice (sA sb so) xs.length cap) xs::blk tb 3 [.int .i64 id]::H) ⟨some ⟨sb,so,none⟩,cap,xs⟩ (Zad 0 rfl) hl id tb 1 rfl)) ?_;rw[show Zlr xs id=(i0:Int)by exact hi0];refine Be<|Xq (Xq (Xg 2 (Ce [(0,.slice (sA sb so) xs.length cap),(1,.func (.func 205) #[] #[vp tb]),(4,.slice none 0 0),(5,vi i0),(12,.bool ((i0:Int)==(-1)))] ?_)));rw[show((i0:Int)==(-1))=false from by simp];refine cF<|Xk<|Xq<|Xq<|Xg 3<|Ce [(0,.slice (sA sb so) xs.length cap),(1,.func (.func 205) #[] #[vp tb]),(4,.slice none 0 0),(5,vi i0),(6,vi (IntKind.i64.wrap ((i0:Int)+1)))]<|Xb 0 ?_;rw[show IntKind.i64.wrap ((i0:Int)+1)=((i0:Int)+1)by rw[w64 (by omega) (by omega)]];refine Xp [(0,.slice (sA sb so) xs.length cap),(1,.func (.func 205) #[] #[vp tb]),(4,.slice none 0 0),(5,vi i0),(6,vi ((i0:Int)+1))] ?_;refine ZbV (fun(q:List Int×Nat×Nat)=> [(0,.slice (sA sb so) xs.length cap),(1,.func (.func 205) #[] #[vp tb]),(4,.slice none 0 0),(5,vi (q.2.1:Int)),(6,vi (q.2.2:Int))]) (fun(q:List Int×Nat×Nat)=>(row (kE .i64) 3 (.slice (sA sb so) xs.length cap) q.1::blk tb 3 [vi id]::H)) (fun k (q:List Int×Nat×Nat)=>k+q.2.2=xs.length∧q.1.length=xs.length∧q.2.1<q.2.2∧q.1.take q.2.1=Zc4 (xs.take q.2.2) id∧q.1.drop q.2.2=xs.drop q.2.2) (xs.length- (i0+1)) (xs,i0,i0+1) Kr ⟨by simp only;omega,rfl,by simp,by simp only;rw[ZdR hx0,Zeq,if_pos rfl,Zk9 hpre],rfl⟩ ?_;rintro k ⟨ys,i,j⟩ ⟨hkj,hyl,hij,hyt,hyd⟩;simp only at hkj hyl hij hyt hyd;refine Xq<|Xq<|Xg 4<|Ce [(0,.slice (sA sb so) xs.length cap),(1,.func (.func 205) #[] #[vp tb]),(4,.slice none 0 0),(5,vi i),(6,vi j),(19,.bool (decide ((j:Int)< (xs.length:Int))))]<|Xc (decide ((j:Int)< (xs.length:Int))) (fun h1=>?_) (fun h1=>?_)
 ·have hj:=of_decide_eq_true h1;obtain⟨x,hx⟩:∃x,xs[j]? =some x:=⟨_,gEe (by omega)⟩
  have hyj:ys[j]? =some x:=by have h:=congrArg (fun l=>l[0]?) hyd;simp only[List.getElem?_drop,Nat.add_zero]at h;rw[h,hx]
  obtain⟨y,hyi⟩:∃y,ys[i]? =some y:=⟨_,gEe (by omega)⟩
  refine Xk<|Xq<|Xb 1<|Xq<|Xg 5<|Br 3 2<|Bs 2 (Zav (Xi 42 (.tmp 22) (.tmp 23) sb so xs.length cap j 1 3 (j:Int) 24 underlying42))<|Bm [(⟨sb,so+j*1,none⟩,vi x)] (hasC (Zac (E:=kE .i64) (xs:=ys) 0 rfl (x:=x) hyj (j:=0) rfl) Zaa)<|Xq<|Xg 4<|Br 2 2<|Bs 1 (Xa (some 28) _ (Zhy (row (kE .i64) 3 (.slice (sA sb so) xs.length cap) ys::blk tb 3 [.int .i64 id]::H) x id tb 1 rfl))<|Ce [(0,.slice (sA sb so) xs.length cap),(1,.func (.func 205) #[] #[vp tb]),(4,.slice none 0 0),(5,vi i),(6,vi j),(7,vi x),(29,.bool (!(x==id)))] ?_;cases h2:((x==id))with
  |true=>
   have e2:x=id:=by simpa using h2
   refine cF<|Xk (Xg 3 (Ce [(0,.slice (sA sb so) xs.length cap),(1,.func (.func 205) #[] #[vp tb]),(4,.slice none 0 0),(5,vi i),(6,vi (IntKind.i64.wrap ((j:Int)+1)))] ?_));rw[show IntKind.i64.wrap ((j:Int)+1)=((j:Int)+1)by rw[w64 (by omega) (by omega)]];exact gA (k-1) (ys,i,j+1) (by omega) ⟨by simp only;omega,hyl,by simp only;omega,by simp only;rw[ZdR hx,Zeq,if_pos e2,hyt],by simp only;rw[←List.drop_drop,←List.drop_drop,hyd]⟩
  |false=>
   have e2:¬x=id:=by simpa using h2
   refine cT<|Xq<|Xg 5<|Br 2 3<|Bs 1 (Zav (Xi 42 (.tmp 30) (.tmp 31) sb so xs.length cap i 1 3 (i:Int) 33 underlying42))<|Bs 0 (ZdU (E:=(kE .i64)) (J:=i) (j:=0) y x (.int .i64 x) ⟨sb,so+i*1,none⟩ (fun _=>Kr) (by first|rfl|simp) (hyi) (rfl) (by decide))<|endR<|Xg 3<|Be<|Xg 3 (Ce [(0,.slice (sA sb so) xs.length cap),(1,.func (.func 205) #[] #[vp tb]),(4,.slice none 0 0),(5,vi (IntKind.i64.wrap ((i:Int)+1))),(6,vi (IntKind.i64.wrap ((j:Int)+1)))] ?_);rw[show IntKind.i64.wrap ((i:Int)+1)=((i:Int)+1)by rw[w64 (by omega) (by omega)]];rw[show IntKind.i64.wrap ((j:Int)+1)=((j:Int)+1)by rw[w64 (by omega) (by omega)]];exact gA (k-1) (ys.set i x,i+1,j+1) (by omega) ⟨by simp only;omega,by simp only[List.length_set];exact hyl,by simp only;omega,by simp only;rw[ZdR hx,Zeq,if_neg e2,←hyt,ZdR (x:=x) (by rw[List.getElem?_set_self (by omega)]),List.take_set_of_le (by omega)],by simp only;rw[List.drop_set_of_lt (by omega),←List.drop_drop,←List.drop_drop,hyd]⟩
 ·have hj:j=xs.length:=by have:=of_decide_eq_false h1;omega
  have hres:ys.take i=Zc4 xs id:=by rw[hyt,hj,List.take_length]
  have hlen:i=(Zc4 xs id).length:=by rw[←hres,List.length_take];omega
  rw[show xs.length=ys.length by exact hyl.symm];refine Xx 0<|Zao<|Zao<|Zax<|Xq<|Xg 4<|Br 2 2<|Bs 1 (Zav (Zlo 42 (.tmp 36) (some (.tmp 37)) none (sA sb so) ys.length cap i ys.length 1 3 (some 38) (fun _=>Kr) Kr Kr (fun _=>Kr) (.inr ⟨_,.i64,(i:Int),rfl,fun _=>by kernel_rfl,by first|rfl|omega⟩) (.inl ⟨rfl,rfl⟩) underlying42 Kr (by omega) (by omega)))<|Bs 0 (clrS (E:=(kE .i64)) 42 (.tmp 38) sb so cap i ys (fun _=>Kr) Kr Kr (fun _=>Kr) underlying42 (ZoJ) (by omega) (ZdL _))<|endR<|Xq<|Xg 4<|Br 2 2<|Bs 1 (Zav (Zlo 42 (.tmp 39) none (some (.tmp 40)) (sA sb so) ys.length cap 0 i 1 3 (some 41) (fun _=>Kr) Kr Kr (fun _=>Kr) (.inl ⟨rfl,rfl⟩) (.inr ⟨_,.i64,(i:Int),rfl,fun _=>by kernel_rfl,by first|rfl|omega⟩) underlying42 Kr (by omega) (by omega)))<|Ce [(4,.slice (ZbC (sA sb so) cap 0 1) (i-0) (cap-0))]<|Xv (Y0 (.slice (ZbC (sA sb so) cap 0 1) (i-0) (cap-0)) (fun w hs=>?_));rw[Zni,hlen.symm,←hres];exact⟨(),rfl,hs⟩
theorem Zqp {Z:List Oz}{j:Nat}{z:Oz}(hz:Z[j]? =some z){B P:SP}{H:List SP}{w:World}(h:Sat w (B::P::(obL Z++H))):Sat w (ozR z::B::P::(obX Z j++H)):=by
 have h1:=Sat.pick (j+2) (P:=ozR z) (by rw[List.getElem?_cons_succ,List.getElem?_cons_succ];exact Zms hz H) h;have h2:(obL Z)[j]? =some (ozR z):=by rw[obL,List.getElem?_map,hz];rfl
 obtain⟨h3,_⟩:=gSs h2;rw[List.eraseIdx_cons_succ,List.eraseIdx_cons_succ,List.eraseIdx_append_of_lt_length h3]at h1;exact h1
def ObD (O:List Ob):Prop:=∀(i j:Nat) (a b:Ob),i≠j→O[i]? =some a→O[j]? =some b→∀x∈a.2,x ∉ b.2
theorem Zoh {O:List Ob}{id:Int}(h:Zc3 O id=false):ZcP O id=O:=by
 have hno:=obHas_no (O:=O) (id:=id) (by rw[h];simp);unfold ZcP;refine(List.map_congr_left (g:=fun o=>o) fun o ho=>?_).trans (List.map_id' O);have:o.2.filter (fun n=> !(n==id))=o.2:=List.filter_eq_self.2 fun e he=>by
  have:e≠id:=fun c=>hno o ho (c▸he)
  simpa using this
 rw[this]
theorem Zoi {O:List Ob}{id:Int}{u:Nat}{o:Ob}(hd:ObD O)(ho:O[u]? =some o)(hm:id∈o.2):ZcP O id=O.set u (o.1,Zc4 o.2 id):=by
 refine List.ext_getElem? fun i=>?_
 rw[ZcP,List.getElem?_map,List.getElem?_set];split
 ·rename_i h
  subst h;obtain⟨h1,_⟩:=gSs ho;rw[if_pos h1,ho];rfl
 ·rename_i h
  cases hg:O[i]? with
  |none=>rfl
  | some a=>
   have hno:=hd u i o a h ho hg id hm;have:a.2.filter (fun n=> !(n==id))=a.2:=List.filter_eq_self.2 fun e he=>by
    have:e≠id:=fun c=>hno (c▸he)
    simpa using this
   show some (a.1,a.2.filter _)=some a;rw[this]
theorem ZkM (H:List SP)(b:Nat)(Z:List Oz)(id:Int)(hZ:Z.length=4)(hl:∀z∈Z,z.l.length≤1000000)(hd:ObD (Z.map obF)):U1 180 #[vp b,vi id] (row obE 247 (.slice (s0 b) 4 4) Z::(obL Z++H)) (ι:={Z':List Oz//Z'.map obF=ZcP (Z.map obF) id∧Z'.length=4}) (fun _=> .bool (Zc3 (Z.map obF) id)) fun x=>row obE 247 (.slice (s0 b) 4 4) x.1::(obL x.1++H):=by
 refine eG func180 26 ?_;refine Xq<|Xg 2<|Bx 1 (Xn 3 [vi id] (some 3) (fun b=>vp b)) fun b1=>Be<|Xq<|Xg 4<|Cl 2 2 [(3,vp b1),(0,vp b),(4,.bool false),(6,vp b),(7,vi id)] [(⟨b1,0,none⟩,vi id)] (hasC (ba 0) Zaa)<|Xh0 ?_ 0 2
 refine Xh0 ?_ 1 2;refine Bs 1 (Xa1 (some 8) (fun _=>vi (ZhZ Z id)) (fun _=>(row obE 247 (.slice (s0 b) 4 4) Z::blk b1 3 [vi id]::(obL Z++H))) ((by have h:=ZfD (blk b1 3 [.int .i64 id]::H) b Z id hZ hl;exact fun w hs=>(h w (Sat.perm (by exact((List.perm_middle (a:=blk b1 3 [.int .i64 id]) (l₁:=row obE 247 (.slice (s0 b) 4 4) Z::obL Z) (l₂:=H)).trans (List.Perm.swap _ _ _)).symm) hs)).mono fun e w' ⟨_,he,hx⟩=>⟨(),he,Sat.perm (by exact((List.perm_middle (a:=blk b1 3 [.int .i64 id]) (l₁:=row obE 247 (.slice (s0 b) 4 4) Z::obL Z) (l₂:=H)).trans (List.Perm.swap _ _ _))) hx⟩)))<|Be<|Xq<|Xq<|Xg 2<|Ce [(3,vp b1),(0,vp b),(4,.bool false),(5,vi (ZhZ Z id)),(10,.bool (decide ((ZhZ Z id)<0)))]<|Xc (decide ((ZhZ Z id)<0)) (fun h2=>?_) (fun h2=>?_)
 ·have hh:Zc3 (Z.map obF) id=false:=by rcases wtsZ_cases Z id with⟨_,r⟩|⟨i,y,e,_⟩;exact r;rw[e]at h2;have:=of_decide_eq_true h2;omega
  exact Xq<|Xg 1<|Be<|Xv (Zab (Y0 (.bool false) fun w hs=>⟨⟨Z,(Zoh hh).symm,hZ⟩,by simp only;rw[hh],Sat.erase 1 rfl hs⟩))
 ·obtain⟨u,z,hu,hz,hzc,hh⟩:∃(i:Nat) (z:Oz),ZhZ Z id=i∧Z[i]? =some z∧z.l.contains id=true∧Zc3 (Z.map obF) id=true:=by rcases wtsZ_cases Z id with⟨e,_⟩|h;rw[e]at h2;simp at h2;exact h
  have hul:=(gSs hz).1;have hzm:=gMm hz;have hlz:=hl z hzm;have hin:id∈z.l:=by simpa using hzc
  have hcut:=Zoi hd (u:=u) (o:=(z.c,z.l)) (by rw[List.getElem?_map,hz];rfl) hin;rw[show ZhZ Z id=(u:Int)by exact hu];obtain⟨zc,za,zk,zl⟩:=z;dsimp only at hlz hin hcut;refine PT.know (KR.isSome (KR.up (Zmr hz _ _)) (List.ne_nil_of_mem hin)) ?_;rintro⟨sb,so,hA⟩;dsimp only at hA;subst hA;refine PT.pick 0 rfl<|PT.pick 1 rfl ?_;refine PT.sat (fun w hs=>Zqp hz hs) ?_;exact Xk<|Xq<|Xy0 2 [15] 16<|At' [0,1,2,3,4,5,9,11,12] [] Zaa<|Xu 6 (Xj 245 (.tmp 16) (.tmp 14) b 0 4 u 2 244 (u:Int) 17 underlying245)<|At' [7,8] [(⟨b,0+u*2+1,none⟩,.slice (sA sb so) zl.length zk)] (hasC (Zac (E:=obE) (xs:=Z) 0 rfl (x:=⟨zc,some ⟨sb,so,none⟩,zk,zl⟩) hz (j:=1) rfl) Zaa)<|Yo 10 (Xa (some 21) (fun _=> .slice (sA sb so) (Zc4 zl id).length zk) (Zm9 _ sb so zk zl id b1 hin hlz))<|Xu 13 (Xj 245 (.tmp 23) (.tmp 12) b 0 4 u 2 244 (u:Int) 24 underlying245)<|At' [14] [] Zaa<|DT.pick 2 rfl<|Yo 15 (ZdU (E:=obE) (J:=u) (j:=1) ⟨zc,some ⟨sb,so,none⟩,zk,zl⟩ ⟨zc,some ⟨sb,so,none⟩,zk,Zc4 zl id⟩ (.slice (sA sb so) ((Zc4 zl id).length) zk) ⟨b,0+u*2+1,none⟩ (fun _=>Kr) (by first|rfl|simp) (hz) (rfl) (by decide))<|Xd<|Xq<|Xg 1<|Be<|Xv (Y0 (.bool true) fun w hs=>⟨⟨Z.set u ⟨zc,some ⟨sb,so,none⟩,zk,Zc4 zl id⟩,by rw[hcut,List.map_set];rfl,by rw[List.length_set,hZ]⟩,by simp only;rw[hh],obPut (Z:=Z) (j:=u) (by omega) ⟨zc,some ⟨sb,so,none⟩,zk,Zc4 zl id⟩ (P:=row obE 247 (.slice (s0 b) 4 4) (Z.set u ⟨zc,some ⟨sb,so,none⟩,zk,Zc4 zl id⟩)) (H:=H) (SatF.swap (Sat.erase 2 rfl hs))⟩)
def ObB (O:List Ob):Prop:=∀o∈O,0≤o.1∧o.1≤255∧o.2.length≤1000000
theorem ObB.of {O:List Ob}(h:ObB O){Z:List Oz}(hZ:Z.map obF=O):(∀z∈Z,z.l.length≤1000000)∧∀z∈Z,0≤z.c∧z.c≤255:=by
 subst hZ;exact⟨fun z hz=>(h _ (List.mem_map.2 ⟨z,hz,rfl⟩)).2.2,fun z hz=>⟨(h _ (List.mem_map.2 ⟨z,hz,rfl⟩)).1,(h _ (List.mem_map.2 ⟨z,hz,rfl⟩)).2.1⟩⟩
section
variable (H :List SP)(b:Nat)(O:List Ob)
theorem Zqm (hO:ObB O)(id j:Int):U0 183 #[vp b,vi id,vi j] (ZcC b O::H) (.tuple #[.bool (Zaj O id j).1.1,Zal (Zaj O id j).1.2]) (ZcC b (Zaj O id j).2::H):=fun w hs=>by
 obtain⟨Z,hZ,h4,hs2⟩:=Sat.openObs hs;obtain⟨h1,h2⟩:=hO.of hZ;subst hZ;exact(ZlD H b Z id j h4 h1 h2 w hs2).mono fun e w' ⟨x,he,hx⟩=>⟨(),he,Sat.closeObs x.2.1 x.2.2 hx⟩
theorem ZrG (hO:ObB O)(j:Int):U0 184 #[vp b,vi j] (ZcC b O::H) (.tuple #[vi (Zay O j).1.1,.bool (Zay O j).1.2.1,Zal (Zay O j).1.2.2]) (ZcC b (Zay O j).2::H):=fun w hs=>by
 obtain⟨Z,hZ,h4,hs2⟩:=Sat.openObs hs;obtain⟨h1,h2⟩:=hO.of hZ;subst hZ;exact(Zig H b Z j h4 h1 h2 w hs2).mono fun e w' ⟨x,he,hx⟩=>⟨(),he,Sat.closeObs x.2.1 x.2.2 hx⟩
theorem Zqn (hO:ObB O)(hd:ObD O)(id:Int):U0 180 #[vp b,vi id] (ZcC b O::H) (.bool (Zc3 O id)) (ZcC b (ZcP O id)::H):=fun w hs=>by
 obtain⟨Z,hZ,h4,hs2⟩:=Sat.openObs hs;obtain⟨h1,h2⟩:=hO.of hZ;subst hZ;exact(ZkM H b Z id h4 h1 hd w hs2).mono fun e w' ⟨x,he,hx⟩=>⟨(),he,Sat.closeObs x.2.1 x.2.2 hx⟩
end
def oz0 :Oz:=⟨0,none,0,[]⟩
def ob0 :List Ob:=[(0,[]),(0,[]),(0,[]),(0,[])]
theorem ZrH (H:List SP):U1 79 #[] H (ι:=Nat) (fun b=>vp b) fun b=>ZcC b ob0::H:=by
 refine eG func79 3 ?_;refine Xq<|Xg 1<|Be<|Xq<|Xg 3<|Br 2 1<|Bx 1 (Xn 247 [vi 0,.slice none 0 0,vi 0,.slice none 0 0,vi 0,.slice none 0 0,vi 0,.slice none 0 0] (some 2) (fun b=>vp b)) fun b1=>Be<|Xv (Y0 (vp b1) (fun w hs=>?_))
 exact⟨b1,rfl,Sat.closeObs (Z:=[oz0,oz0,oz0,oz0]) rfl rfl (by
  have h1:=Sat.blkRows (E:=obE) (T:=247) (xs:=[oz0,oz0,oz0,oz0]) (by decide) hs;have r:=fun(H:List SP) (w:World) (h:Sat w H)=>(Sat.rowNil (E:=kE .i64) (T:=3) h:Sat w (ozR oz0::H))
  have h2:=r _ _ (r _ _ (r _ _ (r _ _ h1)));exact Sat.perm (by exact((List.perm_middle (a:=row obE 247 (.slice (s0 b1) 4 4) [oz0,oz0,oz0,oz0]) (l₁:=[ozR oz0,ozR oz0,ozR oz0,ozR oz0]) (l₂:=H)))) h2)⟩
end Go.Proofs.YtfhkgohokbkgiaaGreatDoor
namespace Go.Proofs.YtfhkgohokbkgiaaGreatDoor
open Go.RowKit
def tmE :Enc (Int×Int):=⟨2,by decide,fun p=> [.int .i64 p.1,.int .i64 p.2],fun _=>rfl,by intro a u hu;simp at hu;rcases hu with rfl|rfl<;>rfl⟩
theorem Zpp :(Tryz.prog.info? 219).map (fun i=>(i.zero,i.size,i.bytes))=some (some (.agg #[.int .i64 0,.int .i64 0]),2,16):=by kernel_rfl
theorem Zgw :Ety Tryz.prog tmE 219 (.agg #[.int .i64 0,.int .i64 0]):=by
 obtain⟨i,hi,hz,hs,hb⟩:=info_parts Zpp;exact⟨⟨i,hi,hz,hs,by omega⟩,rfl⟩
theorem ins_tm_end (w:World)(F:Nat→Prop)(v:Value)(xs zs:List (Int×Int))(x:Int×Int)(hz:zs=xs++[x])(hrow:Row tmE 219 w F v xs)(yb:Nat)(T':TypeId)(hyb:Blk w yb T' (tmE.enc x))(hn:xs.length≤1000000000):
  Calls Tryz.prog 207 #[v,.int .i64 xs.length,.slice (some ⟨yb,0,none⟩) 1 1] w (ZaO tmE 219 F w zs):=by
 obtain⟨v',w',F',hr,h1,h2,h3,_⟩:=Zb2 (ty:=215) Tryz.underlying215 Zgw hrow (Rd.one hyb) (by simp;omega);have hpost:ZaO tmE 219 F w zs (.returned v') w':=⟨v',F',rfl,by rw[hz];exact h1,h2,h3⟩
 have hp:=Lib.hid hpost;have hrr:=Lib.hid hr;clear hr h1 h2 h3 hpost hz;rcases hrow with⟨rfl,rfl,rfl⟩|⟨b,o,c,cur,rfl,rfl,hb,hc1,hc2,hc3,hcur⟩
 ·go_enter Tryz.func207,Tryz.ntmps207
  go_wp2_with (at_builtin;refine ZaT ⟨rfl,rfl,rfl,rfl⟩ hrr.out ?_)
  go_ret
  exact hp.out
 ·generalize xs.length=n at*
  clear hb hc3 hcur;have hc:(n:Int)≤(c:Int):=by omega
  go_enter Tryz.func207,Tryz.ntmps207
  go_wp2_with (at_builtin;refine ZaT ⟨rfl,rfl,rfl,rfl⟩ hrr.out ?_)
  all_goals (go_ret;exact hp.out)
theorem Zhz (w :World) (b o c n:Nat) (cur:Array Value) (xs zs:List (Int×Int)) (x:Int×Int) (i:Nat) (hz:zs=xs.take i++x::xs.drop i) (hx:xs.length=n) (hb:w.heap[b]? =some (.cells cur 219 (0,0))) (hc2:c≤maxLen) (hc3:o+c*2≤cur.size) (hcur:(cur.toList.drop o).take (n*2)=tmE.flat xs)
    (yb:Nat) (T':TypeId) (hyb:Blk w yb T' (tmE.enc x)) (hyF:yb≠b) (hi:i<n) (hroom:n+1≤c) (hn:n≤1000000000):
    Calls Tryz.prog 207 #[.slice (some ⟨b,o,none⟩) n c,.int .i64 i,.slice (some ⟨yb,0,none⟩) 1 1] w (ZaO tmE 219 (ZbN b) w zs):=by
  have hov:∀(o2 l2 c2:Nat),(callFunc 229 #[.slice (some ⟨yb,0,none⟩) 1 1,.slice (some ⟨b,o2,none⟩) l2 c2]).run Tryz.prog w= .ok (.value (.bool false)) w:=fun o2 l2 c2=>by
    rw[run_callFunc_extern Tryz.func229 Kr Kr Kr (e:=Extern.SlicesOverlaps.overlaps #[215,215] #[4]) Kr,Zc9 Tryz.underlying215 (Zb3 Zgw) hyb hb hyF (by omega)];rfl
  have hne:((i:Int)==(n:Int))=false:=by simp;omega
  have hg:decide ((c:Int)< (n:Int)+1)=false:=by simp;omega
  have hw0:IntKind.i64.wrap ((n:Int)+1)=(n:Int)+1:=by rw[IntKind.wrap_i64];omega
  have hw1:IntKind.i64.wrap ((i:Int)+1)=(i:Int)+1:=by rw[IntKind.wrap_i64];omega
  have hb1:(0:Int)≤(i:Int)+1:=by omega
  have htn:((i:Int)+1).toNat=i+1:=by omega
  have hb2:¬(c=i+1):=by omega
  have hb3:(i:Int)≤(n:Int)+1:=by omega
  have hb4:¬(c=i):=by omega
  have hb5:i≤n:=by omega
  have hlen:cur.toList.length=cur.size:=by simp
  have hcp1:=fun dc sc=>Zbu (P:=Tryz.prog) (w:=w.drew) (dT:=215) (sT:=215) (ty:=3) Tryz.underlying215 (Zb3 Zgw) (b:=b) (o:=o+(i+1)*2) (dl:=n-i) (dc:=dc) (sl:=n+1-i) (sc:=sc) hb (ao:=some ⟨b,o+i*2,none⟩) (cs:=tmE.flat (xs.drop i))
    (m:=n-i) (by show min _ _=_;omega) (by rw[tmE.flat_length,List.length_drop,hx]) (by intro h;cases h)
    (by
      intro a ha j u hu;cases ha;rw[Addr.add_lit,cell_of_row w.drew b _ cur 219 (0,0) hb];rw[←tmE.flat_drop,←hcur]at hu;rw[List.getElem?_drop,List.getElem?_take]at hu;split at hu
      · rw[List.getElem?_drop]at hu
        rw[←Array.getElem?_toList,←hu];show _=cur.toList[o+(i*2+j)]?;congr 1;omega
      · cases hu)
    (tmE.flat_one' _) (by rw[tmE.flat_length,List.length_drop,hx];show _+(n-i)*2≤_;omega)
  obtain⟨cur1,hcur1⟩:∃cur1,cur1=(cur.toList.take (o+(i+1)*2)++tmE.flat (xs.drop i)++cur.toList.drop (o+(i+1)*2+(tmE.flat (xs.drop i)).length)).toArray:=⟨_,rfl⟩
  rw[←hcur1]at hcp1;have hfl1:(tmE.flat (xs.take i)).length=i*2:=by rw[tmE.flat_length,List.length_take,hx,Nat.min_eq_left (by omega)];rfl
  have hfl2:(tmE.flat (xs.drop i)).length=(n-i)*2:=by rw[tmE.flat_length,List.length_drop,hx];rfl
  have hsplit:(cur.toList.drop o).take (i*2+(n-i)*2)=tmE.flat (xs.take i)++tmE.flat (xs.drop i):=by
    rw[←Enc.flat_append,List.take_append_drop,←hcur];congr 1;omega
  have hsh:=ZfI cur.toList (tmE.flat (xs.take i)) (tmE.flat (xs.drop i)) (tmE.enc x) o (i*2) ((n-i)*2) 2 hfl1 hfl2 rfl (by rw[hlen];omega) hsplit;have eo:o+i*2+2=o+(i+1)*2:=by omega
  simp only[eo]at hsh;rw[←hfl2]at hsh;have hc1l:cur1.toList=cur.toList.take (o+(i+1)*2)++tmE.flat (xs.drop i)++cur.toList.drop (o+(i+1)*2+(tmE.flat (xs.drop i)).length):=by rw[hcur1]
  rw[←hc1l]at hsh;have hb1':(w.drew.setRow b cur1).heap[b]? =some (.cells cur1 219 (0,0)):=setRow_heap w.drew b cur cur1 _ _ hb;have hyb1:Blk (w.drew.setRow b cur1) yb T' (tmE.enc x):=(setRow_other w.drew b yb cur1 hyF).trans hyb;have hsz1:cur1.size=cur.size:=by rw[hcur1];simp only[List.size_toArray,List.length_append,List.length_take,List.length_drop,hlen,hfl2];omega
  obtain⟨W1,hW1⟩:∃W1,W1=w.drew.setRow b cur1:=⟨_,rfl⟩
  rw[←hW1]at hcp1 hb1' hyb1;have hcp2:=fun dc=>Zbu (P:=Tryz.prog) (w:=W1) (dT:=215) (sT:=215) (ty:=3) Tryz.underlying215 (Zb3 Zgw) (b:=b) (o:=o+i*2) (dl:=n+1-i) (dc:=dc) (sl:=1) (sc:=1) hb1' (ao:=some ⟨yb,0,none⟩) (cs:=tmE.enc x) (m:=1)
    (by show min _ _=_;omega) rfl (by intro h;cases h)
    (by intro a ha j u hu;cases ha;rw[Addr.add_lit,Nat.zero_add,hyb1.cell];exact hu) (tmE.one _) (by rw[hsz1];show _+2≤_;omega)
  obtain⟨cur2,hcur2⟩:∃cur2,cur2=(cur1.toList.take (o+i*2)++tmE.enc x++cur1.toList.drop (o+i*2+(tmE.enc x).length)).toArray:=⟨_,rfl⟩
  rw[←hcur2]at hcp2;have hc2l:cur2.toList=cur1.toList.take (o+i*2)++tmE.enc x++cur1.toList.drop (o+(i+1)*2):=by rw[hcur2,show o+i*2+(tmE.enc x).length=o+(i+1)*2 by show _+2=_;omega]
  rw[←hc2l]at hsh;have hpost:ZaO tmE 219 (ZbN b) w zs (.returned (.slice (some ⟨b,o,none⟩) (n+1) c)) (W1.setRow b cur2):=by
    refine⟨_,ZbN b,rfl,.inr ⟨b,o,c,cur2,?_,rfl,setRow_heap W1 b cur1 cur2 _ _ hb1',?_,hc2,?_,?_⟩,?_,fun b hb=> .inl hb⟩
    · congr 1;rw[hz];simp;omega
    · rw[hz];simp;omega
    · have:=hsh.1;simp only[Array.length_toList]at this;rw[this];exact hc3
    · rw[hz]
      have:=hsh.2;rw[Enc.flat_append,Enc.flat_cons,←List.append_assoc,←this];congr 1;simp;show(_+(_+1))*2=_;omega
    · rw[hW1]
      exact⟨rfl,rfl,rfl,by simp[World.setRow],fun k _ hk=>(setRow_other _ b k _ (fun e=>hk e)).trans (setRow_other w.drew b k _ (fun e=>hk e))⟩
  subst hW1;have hp:=Lib.hid hpost;have HC1:=Lib.hid hcp1;have HC2:=Lib.hid hcp2;clear hpost hcp1 hcp2 hsh hc1l hc2l hcur1 hcur2 hsplit hfl1 hfl2 hb1' hyb1 hcur hb hsz1 hz hx hlen eo hc3 hyb
  go_enter Tryz.func207,Tryz.ntmps207
  go_wp2_with (simp only[hov])
  go_region_law (refine Zcu rfl _ _ _ _ rfl (by simp[Act.eval,Act.put];rfl) (by simp[Act.eval,Act.put];rfl) (HC1.out _ _) ?_)
  have hcp2:=HC2.out
  go_wp2
  go_ret
  exact hp.out
theorem Zi3 (w:World)(b o c n:Nat)(cur:Array Value)(xs zs:List (Int×Int))(x:Int×Int)(i:Nat)(hz:zs=xs.take i++x::xs.drop i)(hx:xs.length=n)(hb:w.heap[b]? =some (.cells cur 219 (0,0)))(hc1:n≤c)(hc3:o+c*2≤cur.size)(hcur:(cur.toList.drop o).take (n*2)=tmE.flat xs)
  (yb:Nat) (T':TypeId) (hyb:Blk w yb T' (tmE.enc x)) (hi:i<n) (hroom:c<n+1) (hn:n≤1000000000):
  Calls Tryz.prog 207 #[.slice (some ⟨b,o,none⟩) n c,.int .i64 i,.slice (some ⟨yb,0,none⟩) 1 1] w (ZaO tmE 219 (ZbN b) w zs):=by
 have hne:((i:Int)==(n:Int))=false:=by simp;omega
 have hg:decide ((c:Int)< (n:Int)+1)=true:=by simp;omega
 have hfl1:(tmE.flat (xs.take i)).length=i*2:=by rw[tmE.flat_length,List.length_take,hx,Nat.min_eq_left (by omega)];rfl
 have hfl2:(tmE.flat (xs.drop i)).length=(n-i)*2:=by rw[tmE.flat_length,List.length_drop,hx];rfl
 have hsrc:∀k j u,(tmE.flat (xs.drop k))[j]? =some u→w.cell? ⟨b,o+k*2+j,none⟩=some u:=by
  intro k j u hu;rw[cell_of_row w b _ cur 219 (0,0) hb];rw[←tmE.flat_drop,←hcur]at hu;rw[List.getElem?_drop,List.getElem?_take]at hu;split at hu
  ·rw[List.getElem?_drop]at hu
   rw[←Array.getElem?_toList,←hu];show _=cur.toList[o+(k*2+j)]?;congr 1;omega
  ·cases hu
 obtain⟨cap,hcap1,hcap2,hr⟩:=ZcX (P:=Tryz.prog) (w:=w) (ty:=215) (tn:=3) Tryz.underlying215 Tryz.underlying3 Zgw (xs:=xs.take i) (ao:=some ⟨b,o,none⟩) (n:=i) (c:=c) (l:=n+1-i) (by rw[List.length_take,hx];omega)
  (by
   intro a ha j u hu;cases ha;have h0:=hsrc 0 j u;rw[Nat.zero_mul,Nat.add_zero,List.drop_zero]at h0;rw[Addr.add_lit];refine h0 ?_;rw[←tmE.flat_take,List.getElem?_take]at hu;split at hu
   ·exact hu
   ·cases hu)
  (by intro h;cases h) (by omega) (by omega) (by omega) (L:=(n:Int)+1- (i:Int)) (by omega)
 have e1:i+(n+1-i)=n+1:=by omega
 rw[e1]at hr hcap1;obtain⟨cur0,hcur0⟩:∃cur0,cur0=(tmE.flat (xs.take i)).toArray++Builtin.zeroCells (Value.agg #[.int .i64 0,.int .i64 0]).cells (n+1-i)++Builtin.zeroCells (Value.agg #[.int .i64 0,.int .i64 0]).cells (cap- (n+1)):=⟨_,rfl⟩
 rw[←hcur0]at hr;have hs0:cur0.size=cap*2:=by
  rw[hcur0];simp only[Array.size_append,List.size_toArray,size_zeroCells,hfl1];show _+_*2+_*2=_;omega
 have ht0:cur0.toList.take (i*2)=tmE.flat (xs.take i):=by
  rw[hcur0];simp only[Array.toList_append,List.append_assoc];exact List.take_left' hfl1
 obtain⟨W0,hW0⟩:∃W0,W0=w.drew.alloc (.cells cur0 219):=⟨_,rfl⟩
 have hb0:W0.heap[w.heap.size]? =some (.cells cur0 219 (0,0)):=by rw[hW0];exact heap_alloc_new w.drew _
 have hold:∀k,k<w.heap.size→W0.heap[k]? =w.heap[k]? :=by intro k hk;rw[hW0];exact Below.heap_alloc w.drew _ k hk
 have hcp1:=fun dc=>Zbu (P:=Tryz.prog) (w:=W0) (dT:=215) (sT:=215) (ty:=3) Tryz.underlying215 (Zb3 Zgw) (b:=w.heap.size) (o:=i*2) (dl:=n+1-i) (dc:=dc) (sl:=1) (sc:=1) hb0 (ao:=some ⟨yb,0,none⟩) (cs:=tmE.enc x) (m:=1)
  (by show min _ _=_;omega) rfl (by intro h;cases h)
  (by intro a ha j u hu;cases ha;rw[Addr.add_lit,Nat.zero_add,World.cell?_of_block (w:=w) (hold _ hyb.lt),hyb.cell];exact hu) (tmE.one _) (by rw[hs0];show _+2≤_;omega)
 obtain⟨cur1,hcur1⟩:∃cur1,cur1=(cur0.toList.take (i*2)++tmE.enc x++cur0.toList.drop (i*2+(tmE.enc x).length)).toArray:=⟨_,rfl⟩
 rw[←hcur1]at hcp1;have hs1:cur1.size=cap*2:=by
  rw[hcur1];simp only[List.size_toArray,List.length_append,List.length_take,List.length_drop,Array.length_toList,hs0];show _+2+(_- (_+2))=_;omega
 have ht1:cur1.toList.take (i*2+2)=tmE.flat (xs.take i)++tmE.enc x:=by
  rw[hcur1];simp only[];rw[ht0];exact List.take_left' (by rw[List.length_append,hfl1];rfl)
 have hb1:(W0.setRow w.heap.size cur1).heap[w.heap.size]? =some (.cells cur1 219 (0,0)):=setRow_heap W0 _ cur0 cur1 _ _ hb0;have hlb:=lt_of_block hb;have hold1:∀k,k<w.heap.size→(W0.setRow w.heap.size cur1).drew.heap[k]? =w.heap[k]? :=by intro k hk;exact(setRow_other W0 _ k cur1 (by omega)).trans (hold k hk)
 have hcp2:=fun dc sc=>Zbu (P:=Tryz.prog) (w:=(W0.setRow w.heap.size cur1).drew) (dT:=215) (sT:=215) (ty:=3) Tryz.underlying215 (Zb3 Zgw) (b:=w.heap.size) (o:=(i+1)*2) (dl:=n-i) (dc:=dc) (sl:=n-i) (sc:=sc) hb1 (ao:=some ⟨b,o+i*2,none⟩) (cs:=tmE.flat (xs.drop i)) (m:=n-i)
  (by show min _ _=_;omega) hfl2 (by intro h;cases h)
  (by intro a ha j u hu;cases ha;rw[Addr.add_lit,World.cell?_of_block (w:=w) (hold1 _ hlb)];exact hsrc i j u hu) (tmE.flat_one' _) (by rw[hs1,hfl2];omega)
 obtain⟨cur2,hcur2⟩:∃cur2,cur2=(cur1.toList.take ((i+1)*2)++tmE.flat (xs.drop i)++cur1.toList.drop ((i+1)*2+(tmE.flat (xs.drop i)).length)).toArray:=⟨_,rfl⟩
 rw[←hcur2]at hcp2;have hpost:ZaO tmE 219 (ZbN b) w zs (.returned (.slice (some ⟨w.heap.size,0,none⟩) (n+1) cap)) ((W0.setRow w.heap.size cur1).drew.setRow w.heap.size cur2):=by
  refine⟨_,ZbN w.heap.size,rfl,.inr ⟨w.heap.size,0,cap,cur2,?_,rfl,setRow_heap _ _ cur1 cur2 _ _ hb1,?_,hcap2,?_,?_⟩,⟨?_,?_,?_,?_,?_⟩,fun b hb=> .inr (by cases hb;exact Nat.le_refl _)⟩
  ·congr 1;rw[hz];simp;omega
  ·rw[hz];simp;omega
  ·rw[hcur2];simp only[List.size_toArray,List.length_append,List.length_take,List.length_drop,Array.length_toList,hs1,hfl2]
   show 0+cap*2≤_;omega
  ·rw[hz,List.drop_zero]
   have e:(i+1)*2=i*2+2:=by omega
   rw[hcur2];simp only[];rw[e,ht1,Enc.flat_append,Enc.flat_cons,←List.append_assoc];exact List.take_left' (by simp only[List.length_append,hfl1,hfl2,List.length_take,List.length_cons,List.length_drop,hx];show _+2+_=(_+(_+1))*2;omega)
  ·rw[hW0];rfl
  ·rw[hW0];rfl
  ·rw[hW0];rfl
  ·rw[hW0];simp[World.setRow]
  ·intro k hk _;exact(setRow_other _ _ k cur2 (by omega)).trans (hold1 k hk)
 obtain rfl:W0=(w.alloc (.cells cur0 219)).drew:=hW0;have hp:=Lib.hid hpost;have HR:=Lib.hid hr;have HC1:=Lib.hid hcp1;have HC2:=Lib.hid hcp2;have hb2:¬(cap=i+1):=by omega
 have hb4:¬(cap=i):=by omega
 have hb5:i≤n:=by omega
 have hb6:¬(c=i):=by omega
 have hb7:i≤c:=by omega
 have hw0:IntKind.i64.wrap ((n:Int)+1)=(n:Int)+1:=by rw[IntKind.wrap_i64];omega
 have hw1:IntKind.i64.wrap ((i:Int)+1)=(i:Int)+1:=by rw[IntKind.wrap_i64];omega
 have hb1:(0:Int)≤(i:Int)+1:=by omega
 have htn:((i:Int)+1).toNat=i+1:=by omega
 clear hpost hr hcp1 hcp2 hcur0 hcur1 hcur2 hfl1 hfl2 hb0 hs0 hs1 ht0 ht1 hold hold1 hsrc hcur hb hz hx e1 hc3 hyb
 go_enter Tryz.func207,Tryz.ntmps207
 have hcp1:=HC1.out
 go_wp2_with (at_builtin;refine ZaT ⟨rfl,rfl,rfl,rfl⟩ HR.out ?_)
 go_region_law (refine Zcu rfl _ _ _ _ rfl (by simp[Act.eval,Act.put];rfl) (by simp[Act.eval,Act.put];rfl) (HC2.out _ _) ?_)
 go_wp2
 go_ret
 exact hp.out
theorem ZrV (w:World)(F:Nat→Prop)(v:Value)(xs:List (Int×Int))(x:Int×Int)(hrow:Row tmE 219 w F v xs)(yb:Nat)(T':TypeId)(hyb:Blk w yb T' (tmE.enc x))(hyF:¬F yb)(i:Nat)(hi:i≤xs.length)(hn:xs.length≤1000000000):
  Calls Tryz.prog 207 #[v,.int .i64 i,.slice (some ⟨yb,0,none⟩) 1 1] w (ZaO tmE 219 F w (xs.take i++x::xs.drop i)):=by
 by_cases hin:i=xs.length
 ·subst hin
  exact ins_tm_end w F v xs _ x (by simp) hrow yb T' hyb hn
 ·rcases hrow with⟨rfl,rfl,rfl⟩|⟨b,o,c,cur,rfl,rfl,hb,hc1,hc2,hc3,hcur⟩
  ·simp at hi hin;omega
  ·by_cases hroom:xs.length+1≤c
   ·exact Zhz w b o c _ cur xs _ x i rfl rfl hb hc2 hc3 hcur yb T' hyb hyF (by omega) hroom hn
   ·exact Zi3 w b o c _ cur xs _ x i rfl rfl hb hc1 hc3 hcur yb T' hyb (by omega) (by omega) hn
theorem Zf3 (n:Nat):∀u∈(Builtin.zeroCells (Value.agg #[.int .i64 0,.int .i64 0]).cells n).toList,u.oneCell'=true:=by
 intro u hu;simp only[Builtin.zeroCells,Value.cells,List.size_toArray,List.length_cons,List.length_nil,Array.toList_map,List.mem_map]at hu;obtain⟨k,_,rfl⟩:=hu;rcases(show k%2=0∨k%2=1 by omega)with h|h<;>simp[h,Value.oneCell']
theorem Zna (w :World) (b o c n:Nat) (cur:Array Value) (xs zs:List (Int×Int)) (i:Nat) (hz:zs=xs.take i++xs.drop (i+1)) (hx:xs.length=n) (hb:w.heap[b]? =some (.cells cur 219 (0,0))) (hc1:n≤c) (hc2:c≤maxLen) (hc3:o+c*2≤cur.size) (hcur:(cur.toList.drop o).take (n*2)=tmE.flat xs)
    (hi:i<n) (hn:n≤1000000000):
    Calls Tryz.prog 202 #[.slice (some ⟨b,o,none⟩) n c,.int .i64 i,.int .i64 (i+1)] w (ZaO tmE 219 (ZbN b) w zs):=by
  have hne:((i:Int)==(i:Int)+1)=false:=by simp;omega
  have hlen:cur.toList.length=cur.size:=by simp
  have hrow:Row tmE 219 w.drew (ZbN b) (.slice (some ⟨b,o,none⟩) (xs.take i).length c) (xs.take i):=by
    refine .inr ⟨b,o,c,cur,rfl,rfl,hb,by simp;omega,hc2,hc3,?_⟩;rw[List.length_take,hx,Nat.min_eq_left (by omega)];rw[←tmE.flat_take,←hcur,List.take_take];congr 1;show i*2=min (i*2) (n*2);omega
  have hil:(xs.take i).length=i:=by rw[List.length_take,hx];omega
  have hdl:(xs.drop (i+1)).length=n- (i+1):=by rw[List.length_drop,hx]
  have hcell:∀j u,(tmE.flat (xs.drop (i+1)))[j]? =some u→w.drew.cell? ⟨b,o+(i+1)*2+j,none⟩=some u:=by
    intro j u hu;rw[cell_of_row w.drew b _ cur 219 (0,0) hb];rw[←tmE.flat_drop,←hcur]at hu;rw[List.getElem?_drop,List.getElem?_take]at hu;split at hu
    · rw[List.getElem?_drop]at hu
      rw[←Array.getElem?_toList,←hu];show _=cur.toList[o+((i+1)*2+j)]?;congr 1;omega
    · cases hu
  have hap:∀(X:Option Addr) (m dc:Nat),m=n- (i+1)→(¬c=i+1→X=some ⟨b,o+(i+1)*2,none⟩∧dc=c- (i+1))→(c=i+1→X=some ⟨b,o,none⟩∧dc=0)→∃cur1,cur1.size=cur.size∧(cur1.toList.drop o).take ((n-1)*2)=tmE.flat zs∧
      (Builtin.append_ #[215,215] 215 #[.slice (some ⟨b,o,none⟩) i c,.slice X m dc]).run Tryz.prog w.drew= .ok (.slice (some ⟨b,o,none⟩) (n-1) c) (w.drew.setRow b cur1):=by
    intro X m dc hm hX1 hX2;subst hm;obtain⟨ii,hii,hzz,hss,hbb⟩:=info_parts Zpp;have hfl:(tmE.flat (xs.drop (i+1))).length=(n- (i+1))*2:=by rw[tmE.flat_length,hdl];rfl
    have hfl0:(tmE.flat (xs.take i)).length=i*2:=by rw[tmE.flat_length,hil];rfl
    have hf:(Builtin.firstCells 2 (n- (i+1)) (.slice X (n- (i+1)) dc)).run Tryz.prog w.drew= .ok (tmE.flat (xs.drop (i+1))).toArray w.drew:=by
      by_cases hcc:c=i+1
      · obtain⟨rfl,rfl⟩:=hX2 hcc
        have e0:n- (i+1)=0:=by omega
        rw[e0]at hfl ⊢;have:tmE.flat (xs.drop (i+1))=[]:=List.eq_nil_of_length_eq_zero (by simpa using hfl);rw[this];exact run_firstCells_some (P:=Tryz.prog) w.drew 2 0 _ _ _ [] rfl (by intro j u h;simp at h)
      · obtain⟨rfl,rfl⟩:=hX1 hcc
        exact run_firstCells_some (P:=Tryz.prog) w.drew 2 _ _ _ _ _ hfl (fun j u hu=>by rw[Addr.add_lit];exact hcell j u hu)
    have hst:=run_storeCells_at Tryz.prog b (o+i*2) 219 (tmE.flat (xs.drop (i+1))) 0 cur w.drew hb (by rw[hfl];omega) (tmE.flat_one' _);simp only[Nat.add_zero]at hst;refine⟨(cur.toList.take (o+i*2)++tmE.flat (xs.drop (i+1))++cur.toList.drop (o+i*2+(tmE.flat (xs.drop (i+1))).length)).toArray,?_,?_,?_⟩
    rotate_left 2
    · have hroom:i+(n- (i+1))≤c:=by omega
      have e1:i+(n- (i+1))=n-1:=by omega
      simp[Builtin.append_,run_underlying Tryz.underlying215,sizeOf,typeInfo,hii,hss,Builtin.lenOf,hf,Addr.add_lit,hst,e1];intro h;omega
    · simp only[List.size_toArray,List.length_append,List.length_take,List.length_drop,hlen,hfl];omega
    · have htm:=Zdj cur.toList o (i*2) (tmE.flat (xs.drop (i+1))).length (tmE.flat (xs.drop (i+1))) rfl (by rw[hlen,hfl];omega)
      have e2:(n-1)*2=i*2+(tmE.flat (xs.drop (i+1))).length:=by rw[hfl];omega
      rw[e2];show List.take _ (List.drop o (List.take (o+i*2) cur.toList++tmE.flat (xs.drop (i+1))++List.drop (o+i*2+(tmE.flat (xs.drop (i+1))).length) cur.toList))=_;rw[htm,hz,Enc.flat_append];congr 1;rw[←tmE.flat_take,←hcur,List.take_take];congr 1;show i*2=min (i*2) (n*2);omega
  have hclr:∀cur1:Array Value,cur1.size=cur.size→(cur1.toList.drop o).take ((n-1)*2)=tmE.flat zs→∃cur2,(∀dc,(Builtin.clear_ #[215] 0 #[.slice (some ⟨b,o+(n-1)*2,none⟩) 1 dc]).run Tryz.prog (w.drew.setRow b cur1)= .ok (.tuple #[]) ((w.drew.setRow b cur1).setRow b cur2))∧
      ZaO tmE 219 (ZbN b) w zs (.returned (.slice (some ⟨b,o,none⟩) (n-1) c)) ((w.drew.setRow b cur1).setRow b cur2):=by
    intro cur1 hs1 ht1;have hb1:(w.drew.setRow b cur1).heap[b]? =some (.cells cur1 219 (0,0)):=setRow_heap w.drew b cur cur1 _ _ hb;have hl1:cur1.toList.length=cur.size:=by simp[hs1]
    have hzl:(Builtin.zeroCells (Value.agg #[.int .i64 0,.int .i64 0]).cells 1).toList.length=2:=by rw[Array.length_toList,size_zeroCells];rfl
    refine⟨_,fun dc=>ZbK (P:=Tryz.prog) Tryz.underlying215 Zgw hb1 (by omega) (by rw[hs1];show _+1*2≤_;omega) (Zf3 1),?_⟩;refine⟨_,ZbN b,rfl,.inr ⟨b,o,c,_,?_,rfl,setRow_heap _ b cur1 _ _ _ hb1,?_,hc2,?_,?_⟩,⟨rfl,rfl,rfl,by simp[World.setRow],fun k _ hk=>(setRow_other _ b k _ (fun e=>hk e)).trans (setRow_other w.drew b k _ (fun e=>hk e))⟩,fun b hb=> .inl hb⟩
    · congr 1;rw[hz];simp;omega
    · rw[hz];simp;omega
    · simp only[List.size_toArray,List.length_append,List.length_take,List.length_drop,hl1,hzl]
      show o+c*2≤_+(_- (_+1*2));omega
    · have hzn:zs.length=n-1:=by rw[hz];simp;omega
      rw[hzn,←ht1];show List.take ((n-1)*2) (List.drop o (List.take (o+(n-1)*2) cur1.toList++(Builtin.zeroCells (Value.agg #[.int .i64 0,.int .i64 0]).cells 1).toList++List.drop (o+(n-1)*2+1*2) cur1.toList))=_;rw[List.append_assoc,List.drop_append,List.length_take,hl1,show o-min (o+(n-1)*2) cur.size=0 by omega,List.drop_zero,List.drop_take];have e3:o+(n-1)*2-o=(n-1)*2:=by omega
      rw[e3];exact List.take_left' (by simp only[List.length_take,List.length_drop,hl1];omega)
  have HAP:=Lib.hid hap;have HCL:=Lib.hid hclr;clear hap hclr hrow hil hdl hcell hcur hb hx hz hlen hc3;have hb2:¬(c=i):=by omega
  have hb3:¬(c=n-1):=by omega
  have hb4:i+1≤n:=by omega
  have hb5:(0:Int)≤(i:Int)+1:=by omega
  have hw1:IntKind.i64.wrap ((i:Int)+1)=(i:Int)+1:=by rw[IntKind.wrap_i64];omega
  have htn:((i:Int)+1).toNat=i+1:=by omega
  have hb6:n- (n-1)=1:=by omega
  have hb7:i≤n:=by omega
  have hb8:n-1≤n:=by omega
  have hb9:i≤c:=by omega
  have hb11:(i:Int)+1≤(n:Int):=by omega
  have hb10:(i:Int)≤(i:Int)+1:=by omega
  by_cases hcc:c=i+1
  · subst hcc
    obtain⟨cur1,hs1,ht1,hr1⟩:=HAP.out (some ⟨b,o,none⟩) 0 0 (by omega) (by intro h;exact absurd rfl h) (by intro _;exact⟨rfl,rfl⟩);obtain⟨cur2,hr2,hp0⟩:=HCL.out cur1 hs1 ht1;have hp:=Lib.hid hp0;have HR:=Lib.hid hr1;clear hs1 ht1 hp0 hr1 HAP HCL
    go_enter Tryz.func202,Tryz.ntmps202
    go_wp2
    go_region_law (refine ZaQ rfl _ _ _ _ rfl (by simp[Act.eval,Act.put]) (by simp[Act.eval,Act.put]) HR.out ?_)
    go_wp2
    go_ret
    exact hp.out
  · obtain⟨cur1,hs1,ht1,hr1⟩:=HAP.out (some ⟨b,o+(i+1)*2,none⟩) (n- (i+1)) (c- (i+1)) rfl (by intro _;exact⟨rfl,rfl⟩) (by intro h;exact absurd h hcc)
    obtain⟨cur2,hr2,hp0⟩:=HCL.out cur1 hs1 ht1;have hp:=Lib.hid hp0;have HR:=Lib.hid hr1;clear hs1 ht1 hp0 hr1 HAP HCL
    go_enter Tryz.func202,Tryz.ntmps202
    go_wp2
    go_region_law (refine ZaQ rfl _ _ _ _ rfl (by simp[Act.eval,Act.put]) (by simp[Act.eval,Act.put]) HR.out ?_)
    go_wp2
    go_ret
    exact hp.out
theorem Zr9 (w:World)(F:Nat→Prop)(v:Value)(xs:List (Int×Int))(hrow:Row tmE 219 w F v xs)(i:Nat)(hi:i<xs.length)(hn:xs.length≤1000000000):
  Calls Tryz.prog 202 #[v,.int .i64 i,.int .i64 (i+1)] w (ZaO tmE 219 F w (xs.take i++xs.drop (i+1))):=by
 rcases hrow with⟨rfl,rfl,rfl⟩|⟨b,o,c,cur,rfl,rfl,hb,hc1,hc2,hc3,hcur⟩
 ·simp at hi
 ·exact Zna w b o c _ cur xs _ i rfl rfl hb hc1 hc2 hc3 hcur hi hn
end Go.Proofs.YtfhkgohokbkgiaaGreatDoor
