/- Texts put together: passq: All, Shift. errors.Is of numbered errors: its walk. passq: entries compared; errors; what the laws know first. Trees: their nodes as a list, what each operation makes of it; nodes in memory. A map's keys, sorted: slices.Sorted(maps.Keys(m)), by the shelf's contracts. Whole numbers below 2^53 as floats: exact, in their order, back again; sums and products. Whole numbers as floats: comparisons, sums, conversions as operations. Trees: what an index holds of a group, when one node changes. A builtin of two operands in G; the greater of two whole numbers as floats. tree: strides, passes as floats; New, Deep, Node. tree: New, Deep, Node. Trees: one round of waking, of resting; another pass. tree: wakes. tree: rests. tree: Ready, sets, has. tree: Nodes. Trees: what waking, resting leave; a node comes, a node Zcc. Trees: the least that is ready; the way down; passes made less. tree: has, Remove, Weight, Add. tree: Remove, Weight, Add. Trees: each operation keeps what holds of them. tree: Add. tree: shifts. tree: shifts. tree: Run. Trees: what Run makes of the nodes. What a law's walk gives; arguments. tree: what calls answer, told by equations; what the laws know first. The document's strides, Fair. Trees: what laws say of two in one group. Trees: waking, when nothing has run yet. A tree as one part of memory: its operations. Conditions: none. -/
import Derived.Test.YtfhkgohokbkgiaaGreatDoorMgWp0
import Derived.LaidEql
import Derived.Stop.Asserts
import Derived.RowKitTokens
import Derived.Lib.IfaceEq
import Derived.Laws.StructEq
import Derived.ChangeKeysEq
import Derived.Shelf.SlIterI.Sorted
import Derived.Shelf.SortM.Plain
import Derived.Shelf.SortM.SortNone
import Derived.Laws.FloatArith
import Ieee.Arith
set_option linter.unusedSimpArgs false
set_option linter.unusedVariables false
set_option maxRecDepth 100000
set_option maxHeartbeats 1000000
namespace Go.Proofs.YtfhkgohokbkgiaaGreatDoor
open Go.RowKit G Tryz
theorem Sat.blkRow0 {α:Type}{E:Enc α}{T:TypeId}{H:List SP}{w:World}{b:Nat}(h:Sat w (blk b T []::H)):Sat w (row E T (.slice (some ⟨b,0,none⟩) 0 0) ([]:List α)::H):=
 Sat.change h fun G hG=>by
  refine⟨Upd.refl _ w,ZbN b,.inr ⟨b,0,0,_,rfl,rfl,hG.1,by simp,by simp[maxLen],by simp,?_⟩,fun x hx=> .inl ((hG.2 x).2 hx)⟩;simp;rfl
theorem PT.blkRow0 {α:Type}{E:Enc α}{T:TypeId}{H:List SP}{n:Nat}{L:List (Nat×Value)}{b:Nat}{Φ:Act→World→Prop}(h:PT n L (row E T (.slice (some ⟨b,0,none⟩) 0 0) ([]:List α)::H) Φ):PT n L (blk b T []::H) Φ:=PT.sat (fun w hs=>Sat.blkRow0 hs) h
theorem rowA {α:Type}{E:Enc α}{T:TypeId}{H:List SP}(i:Nat){A:Option Addr}{k:Nat}{xs:List α}(hi:H[i]? =some (row E T (.slice A xs.length k) xs)):∀w,Sat w H→(A=none∧xs=[]∧k=0)∨∃b o,A=some ⟨b,o,none⟩:=by
 intro w hs;obtain⟨G,hG⟩:=(hs.pick i hi).head;rcases hG with⟨h1,h2,_⟩|⟨b,o,c,cur,h1,_⟩
 ·injection h1 with e1 e2 e3;exact .inl ⟨e1,h2,e3⟩
 ·injection h1 with e1 e2 e3;exact .inr ⟨b,o,e1⟩
theorem ZeZ {α:Type}{E:Enc α}{T:TypeId}{H:List SP}(i:Nat){A:Option Addr}{m k:Nat}{xs:List α}(hi:H[i]? =some (row E T (.slice A m k) xs))(hm:m=xs.length):KR H E ⟨A,k,xs⟩:=by subst hm;exact Zad i hi
def shN (n:Int):Int:=mnI (mxI n 0) 1099511627776
def ZbI (l:List (Int×Int))(n:Int):List (Int×Int):=l.map fun e=>(mxI 0 (IntKind.i64.wrap (e.1-shN n)),e.2)
theorem Zki (H:List SP)(b:Nat)(A:Option Addr)(cap:Nat)(room:Int)(l:List (Int×Int))(n:Int)(hl:l.length≤64)(hsr:SrtE (ZbI l n)):U0 148 #[vp b,vi n] (blk b 279 [.slice A l.length cap,vi room]::row slE 230 (.slice A l.length cap) l::H) (.tuple #[]) (blk b 279 [.slice A (ZbI l n).length cap,vi room]::row slE 230 (.slice A (ZbI l n).length cap) (ZbI l n)::H):=by
 refine eG func148 40 ?_;refine Xq<|Xg 4<|Be<|Xq<|Xq<|Xg 6<|Bm [(⟨b,0,none⟩,.slice A l.length cap)] (hasC (ba 0) Zaa)<|Xb 0 (Xp [(0,vp b),(1,vi (mnI (mxI n 0) 1099511627776)),(12,vi (l.length:Int)),(13,vi 0)] ?_);refine ZbV (fun(x:List (Int×Int)×Nat)=> [(0,vp b),(1,vi (shN n)),(12,vi (l.length:Int)),(13,vi (x.2:Int))]) (fun(x:List (Int×Int)×Nat)=>(blk b 279 [.slice A l.length cap,vi room]::row slE 230 (.slice A l.length cap) x.1::H)) (fun k (x:List (Int×Int)×Nat)=>k+x.2=l.length∧x.1=(ZbI l n).take x.2++l.drop x.2) l.length (l,0) Kr ⟨by simp,by simp⟩ ?_;rintro k ⟨xs,u⟩ ⟨hku,hxs⟩;dsimp only at hku hxs ⊢;have hsl:(ZbI l n).length=l.length:=by simp[ZbI]
 have hxl:xs.length=l.length:=by rw[hxs,List.length_append,List.length_take,List.length_drop];omega
 refine Xq<|Xg 1<|Ce [(0,vp b),(1,vi (shN n)),(12,vi (l.length:Int)),(13,vi u),(14,.bool (decide ((u:Int)< (l.length:Int))))]<|Xq (Xc (decide ((u:Int)< (l.length:Int))) (fun h1=>?_) (fun h1=>?_))
 ·have hu:u<l.length:=by have:=of_decide_eq_true h1;omega
  obtain⟨e,he⟩:∃e,l[u]? =some e:=⟨_,by simp[hu];rfl⟩
  have hxe:xs[u]? =some e:=by rw[hxs,List.getElem?_append_right (by rw[List.length_take];omega),List.length_take,List.getElem?_drop,hsl,show u+(u-min u l.length)=u by omega];exact he
  have hse:(ZbI l n)[u]? =some (mxI 0 (IntKind.i64.wrap (e.1-shN n)),e.2):=by rw[ZbI,List.getElem?_map,he];rfl
  have hset:xs.set u (mxI 0 (IntKind.i64.wrap (e.1-shN n)),e.2)=(ZbI l n).take (u+1)++l.drop (u+1):=by
   rw[hxs,List.set_append_right _ _ (by rw[List.length_take];omega),List.length_take,hsl,show u-min u l.length=0 by omega,List.take_add_one,hse,List.drop_eq_getElem_cons hu,List.set_cons_zero,List.append_assoc];rfl
  refine PT.know (KR.isSome (s:=⟨A,cap,xs⟩) (ZeZ 1 rfl hxl.symm) (List.ne_nil_of_length_pos (by show 0<xs.length;omega))) ?_;rintro⟨sb,so,hA⟩;dsimp only at hA;subst hA;refine Xk<|Xq<|Xb 1<|Xq<|Xg 2<|Be<|Xy0 0 [18] 19<|At' [0,1,2,3,4,5,6,7,8,9,13] [(⟨b,0,none⟩,.slice (sA sb so) l.length cap),(⟨b,0,none⟩,.slice (sA sb so) l.length cap)] (hasC (ba 0) (hasC (ba 0) Zaa))<|Xu 10 (Xi 277 (.tmp 24) (.tmp 25) sb so l.length cap u 2 230 (u:Int) 26 underlying277)<|At' [11,12,14,15] [(⟨sb,so+u*2,none⟩,vi e.1)] (hasC ((ZeZ (xs:=xs) (m:=l.length) (A:=some ⟨sb,so,none⟩) (k:=cap) (E:=slE) (T:=230) 1 rfl hxl.symm).cell rfl (i:=u) (x:=e) hxe (j:=0) rfl) Zaa)<|Xu 16 (Xi 277 (.tmp 19) (.tmp 20) sb so l.length cap u 2 230 (u:Int) 32 underlying277)<|At' [17] [] Zaa<|DT.pick 1 rfl<|Yo 18 (ZdU (E:=slE) (J:=u) (j:=0) e (mxI 0 (IntKind.i64.wrap (e.1-shN n)),e.2) (.int .i64 (mxI 0 (IntKind.i64.wrap (e.1- (shN n))))) ⟨sb,so+u*2,none⟩ (fun _=>Kr) (by first|rfl|simp) (hxe) (rfl) (by decide))<|Xd (Xg 2 (Ce [(0,vp b),(1,vi (shN n)),(12,vi (l.length:Int)),(13,vi (IntKind.i64.wrap ((u:Int)+1)))] ?_));rw[show IntKind.i64.wrap ((u:Int)+1)=((u+1:Nat):Int)by rw[IntKind.wrap_i64];omega];exact PT.pick 1 rfl<|gA (k-1) (xs.set u (mxI 0 (IntKind.i64.wrap (e.1-shN n)),e.2),u+1) (by omega) ⟨by simp only;omega,hset⟩
 ·have hu:u=l.length:=by have:=of_decide_eq_false h1;omega
  have hfin:xs=ZbI l n:=by rw[hxs,hu,List.drop_length,List.append_nil,List.take_of_length_le (by omega)]
  rw[hfin];refine Xx 0 (Zao (Zao (Zax (Xg 5 (Cl 1 4 [(38,.slice A l.length cap)] [(⟨b,0,none⟩,.slice A l.length cap)] (hasC (ba 0) Zaa) ?_)))));rw[←hsl];refine Bs 0 (Xa (some 39) _ (ZlN (blk b 279 [.slice A ((ZbI l n).length) cap,.int .i64 room]::row slE 230 (.slice A ((ZbI l n).length) cap) (ZbI l n)::H) ⟨A,cap,ZbI l n⟩ (Zad 1 rfl) hsr (by show(ZbI l n).length≤64;omega)))<|endR<|Y1 (.tuple #[]) (fun w hs=>?_);exact⟨(),rfl,hs⟩
theorem Zqg (H:List SP)(b:Nat)(room:Int)(l:List (Int×Int))(p id:Int)(hsr:SrtE l)(hl:l.length<1000000):U0 143 #[vp b,vi p,vi id] (Zco b room l::H) (Zal (ZjB room l p id).1) (Zco b room (ZjB room l p id).2::H):=
 Zd7 fun A cap w hs=>(Zod H b A cap room l p id hsr hl w hs).mono fun e w' ⟨x,he,hx⟩=>⟨(),he,Sat.idx hx⟩
theorem ZoL (H:List SP)(b:Nat)(room:Int)(l:List (Int×Int))(id:Int)(hl:l.length<1000000):U0 145 #[vp b,vi id] (Zco b room l::H) (Zal (Zb7 l id).1) (Zco b room (Zb7 l id).2::H):=
 Zd7 fun A cap w hs=>(ZhL H b A cap room l id hl w hs).mono fun e w' ⟨x,he,hx⟩=>⟨(),he,Sat.idx hx⟩
theorem Zmf (H:List SP)(b:Nat)(room:Int)(l:List (Int×Int))(id p:Int)(hsr:SrtE l)(hl:l.length<1000000):U0 149 #[vp b,vi id,vi p] (Zco b room l::H) (Zal (Zck l id p).1) (Zco b room (Zck l id p).2::H):=
 Zd7 fun A cap w hs=>(ZkE H b A cap room l id p hsr hl w hs).mono fun e w' ⟨x,he,hx⟩=>⟨(),he,Sat.idx hx⟩
theorem ZlQ (H:List SP)(b:Nat)(room:Int)(l:List (Int×Int))(n:Int)(hl:l.length≤64)(hsr:SrtE (ZbI l n)):U0 148 #[vp b,vi n] (Zco b room l::H) (.tuple #[]) (Zco b room (ZbI l n)::H):=
 Zd7 fun A cap w hs=>(Zki H b A cap room l n hl hsr w hs).mono fun e w' ⟨x,he,hx⟩=>⟨(),he,Sat.idx hx⟩
end Go.Proofs.YtfhkgohokbkgiaaGreatDoor
namespace Go.Proofs.YtfhkgohokbkgiaaGreatDoor
open Go.RowKit G Go.Extern.Stop Go.Stop Go.Extern
end Go.Proofs.YtfhkgohokbkgiaaGreatDoor
namespace Go.Proofs.YtfhkgohokbkgiaaGreatDoor
open Go.RowKit G Tryz
theorem SatF.unpick :∀{l:List SP} (i:Nat) {P:SP} {w:World} {F:Nat→Prop},l[i]? =some P→SatF (P::l.eraseIdx i) w F→SatF l w F
 | [],i,P,w,F,h,_=>by simp at h
 |Q::l,0,P,w,F,h,hs=>by simp at h;subst h;exact hs
 |Q::l,i+1,P,w,F,h,hs=>by
  obtain⟨G,h1,h2,h3⟩:=SatF.swap hs;exact⟨G,h1,h2,SatF.unpick i (by simpa using h) h3⟩
theorem Zgd {P:Program}{f:FuncId}{vs:Array Value}{v:Value}{X:SP}{H:List SP}(j:Nat)(hj:H[j]? =some X)(h:∀w,Sat w (X::H.eraseIdx j)→Calls P f vs w (Ret (ι:=Unit) (fun _=>v) fun _=>X::H.eraseIdx j)):∀w,Sat w H→Calls P f vs w (Ret (ι:=Unit) (fun _=>v) fun _=>H):=fun w hs=>
 (h w (hs.pick j hj)).mono fun e w' ⟨p,he,hx⟩=>⟨p,he,SatF.unpick j hj hx⟩
theorem SatF.unpickSet :∀{l:List SP} (i:Nat) {P Y:SP} {w:World} {F:Nat→Prop},l[i]? =some P→SatF (Y::l.eraseIdx i) w F→SatF (l.set i Y) w F
 | [],i,P,Y,w,F,h,_=>by simp at h
 |Q::l,0,P,Y,w,F,h,hs=>hs
 |Q::l,i+1,P,Y,w,F,h,hs=>by
  obtain⟨G,h1,h2,h3⟩:=SatF.swap hs;exact⟨G,h1,h2,SatF.unpickSet i (by simpa using h) h3⟩
theorem Zak {ι:Type}{P:Program}{f:FuncId}{vs:Array Value}{rv:ι→Value}{X:SP}{Y:ι→SP}{H:List SP}(j:Nat)(hj:H[j]? =some X)(h:∀w,Sat w (X::H.eraseIdx j)→Calls P f vs w (Ret rv fun x=>Y x::H.eraseIdx j)):∀w,Sat w H→Calls P f vs w (Ret rv fun x=>H.set j (Y x)):=fun w hs=>
 (h w (hs.pick j hj)).mono fun e w' ⟨p,he,hx⟩=>⟨p,he,SatF.unpickSet j hj hx⟩
theorem ZrC {l':List (Int×Int)}{room:Int}{l:List (Int×Int)}{p id:Int}(h:ZjB room l p id=(0,l'))(hsr:SrtE l)(hl:l.length<1000000)(H:List SP)(b:Nat):U0 143 #[vp b,vi p,vi id] (Zco b room l::H) .nilIface (Zco b room l'::H):=by
 have:=Zqg H b room l p id hsr hl;rw[h]at this;exact this
theorem drop_ok {l':List (Int×Int)}{room:Int}{l:List (Int×Int)}{id:Int}(h:Zb7 l id=(0,l'))(hl:l.length<1000000)(H:List SP)(b:Nat):U0 145 #[vp b,vi id] (Zco b room l::H) .nilIface (Zco b room l'::H):=by
 have:=ZoL H b room l id hl;rw[h]at this;exact this
theorem rekey_ok {l':List (Int×Int)}{room:Int}{l:List (Int×Int)}{id p:Int}(h:Zck l id p=(0,l'))(hsr:SrtE l)(hl:l.length<1000000)(H:List SP)(b:Nat):U0 149 #[vp b,vi id,vi p] (Zco b room l::H) .nilIface (Zco b room l'::H):=by
 have:=Zmf H b room l id p hsr hl;rw[h]at this;exact this
theorem shift_is {l':List (Int×Int)}{room:Int}{l:List (Int×Int)}{n:Int}(h:ZbI l n=l')(hsr:SrtE l')(hl:l.length≤64)(H:List SP)(b:Nat):U0 148 #[vp b,vi n] (Zco b room l::H) (.tuple #[]) (Zco b room l'::H):=by
 have:=ZlQ H b room l n hl (by rw[h];exact hsr);rw[h]at this;exact this
structure Nr where
 id:Int
 par:Int
 wt:Int
 pass:Int
 thr:Bool
 rdy:Bool
 now:Int
structure Nd where
 n:Nr
 q:List (Int×Int)
 b:Nat
 ib:Nat
def gt (N:List Nr)(k:Int):Option Nr:=N.find? (fun x=>x.id==k)
def upN (N:List Nr)(k:Int)(f:Nr→Nr):List Nr:=N.map (fun x=>if x.id==k then f x else x)
def Zcy (N:List Nr)(k:Int):List Nr:=N.filter (fun x=>x.par==k&&x.rdy)
def isW (w:Int):Bool:=decide (w≥1)&&decide (w≤16)
def ZaH (w:Int):Int:=if isW w then(720720:Int).tdiv w else 0
def scaleN (pass now from_ to:Int):Int:=if pass≤now∨ZaH from_=0 then pass else now+((pass-now)*ZaH to).tdiv (ZaH from_)
def Za2 : Nat→List Nr→Int→Nat
  |0,_,_=>0
  | f+1,N,k=>match gt N k with
    |none=>0
    |some x=>Za2 f N x.par+1
def Zbk : Nat→List Nr→Int→List Nr
  |0,N,_=>N
  | f +1,N,k=>match gt N k with
    |none=>N
    | some x=>if x.rdy then N else match gt N x.par with
      |none=>upN N k (fun x=>{x with rdy:=true})
      |some p=>Zbk f (upN N k (fun x=>{x with rdy:=true,pass:=mxI x.pass p.now})) x.par
def restN : Nat→List Nr→Int→List Nr
  |0,N,_=>N
  | f +1,N,k=>match gt N k with
    |none=>N
    | some x=>if x.rdy=false∨Zcy N k≠ [] then N else match gt N x.par with
      |none=>upN N k (fun x=>{x with rdy:=false})
      |some p=>restN f (upN N k (fun x=>{x with rdy:=false})) x.par
def Zbs (N :List Nr) (par id wt:Int) (thr:Bool):Int×List Nr:=
  if isW wt=false∨id<1 then(10,N)else match gt N par with
    |none=>(13,N)
    | some p=>if p.thr then(13,N)else if(gt N id).isSome then(20,N)else if thr=false∧4≤Za2 6 N par then(12,N)else if 60≤N.length then(14,N)
      else(0,N++[{id,par,wt,pass:=p.now,thr,rdy:=false,now:=0}])
def Zap (N:List Nr)(k:Int):Int×List Nr:=
 if(gt N k).isNone∨k=0 then(13,N)else if N.any (fun x=>x.par==k)then(10,N)else(0,(restN 6 N k).filter (fun x=> !(x.id==k)))
def Zag (N:List Nr)(k:Int)(r:Bool):Int×List Nr:=
 match gt N k with
 |none=>(13,N)
 |some x=>if x.thr then(0,if r then Zbk 6 N k else restN 6 N k)else(13,N)
def Zaq (N :List Nr) (k wt:Int):Int×List Nr:=
  if isW wt=false then(10,N)else match gt N k with
    |none=>(13,N)
    | some x=>if k=0 then(13,N)else match gt N x.par with
      |none=>(13,N)
      |some p=>(0,upN N k (fun x=>{x with pass:=scaleN x.pass p.now x.wt wt,wt:=wt}))
def ZcI (a b:Nr):Bool:=decide (a.pass<b.pass)||(decide (a.pass=b.pass)&&decide (a.id<b.id))
def least : List Nr→Option Nr
  | []=>none
  | x::r=>match least r with
    |none=>some x
    |some y=>if ZcI y x then some y else some x
def Za6 (N:List Nr)(k:Int):List Nr:=
 match gt N k with
 |none=>N
 |some g=>if g.now≤16777216 then N else upN (N.map (fun x=>if x.par==k then {x with pass:=mxI 0 (x.pass-g.now)}else x)) k (fun x=>{x with now:=0})
def ZbL : Nat→List Nr→Int→List Int→Int×List Nr
  |0,N,k,_=>(k,N)
  | f+1,N,k,way=>match least (Zcy N k)with
    |none=>(k,way.foldl Za6 N)
    |some y=>ZbL f (upN (upN N k (fun x=>{x with now:=y.pass})) y.id (fun x=>{x with pass:=y.pass+ZaH y.wt})) y.id (way++[k])
def Zcd (N:List Nr):(Int×Bool)×List Nr:=
 match gt N 0 with
 |none=>((0,false),N)
 |some r=>if r.rdy then(let z:=ZbL 6 N 0 [];((z.1,true),z.2))else((0,false),N)
structure SK (N:List Nr):Prop where
 nd:(N.map (·.id)).Nodup
 root:∃r∈N,r.id=0
 rt:∀x∈N,x.id=0→x.par= -1∧x.thr=false
 pa:∀x∈N,x.id≠0→1≤x.id∧∃p∈N,p.id=x.par∧p.thr=false
 len:N.length≤60
 rk:∃rk:Int→Nat,∀x∈N,(x.id=0→rk x.id=1)∧(x.id≠0→rk x.id=rk x.par+1)∧rk x.id≤5∧(x.thr=false→rk x.id≤4)
structure LB (N:List Nr):Prop where
 wt:∀x∈N,isW x.wt=true
 pass:∀x∈N,0≤x.pass∧x.pass≤1099511627776
 now:∀x∈N,0≤x.now∧x.now≤1099511627776
structure WFN (N:List Nr):Prop where
 sk:SK N
 wt:∀x∈N,isW x.wt=true
 now:∀x∈N,0≤x.now∧x.now≤16777216
 pass:∀x∈N,0≤x.pass∧x.pass≤16777216+1441440
 pn:∀x∈N,∀p∈N,p.id=x.par→x.pass≤p.now+ZaH x.wt∧(x.rdy=true→p.now≤x.pass)
 rd:∀x∈N,x.thr=false→(x.rdy=true↔∃y∈N,y.par=x.id∧y.rdy=true)
structure OkT (N:List Nr)(T:List Nd):Prop where
 n:T.map (·.n)=N
 srt:∀x∈T,SrtE x.q
 mem:∀x∈T,∀p k,(p,k)∈x.q↔∃y∈N,y.par=x.n.id∧y.rdy=true∧y.pass=p∧y.id=k
theorem WFN.lb {N:List Nr}(h:WFN N):LB N:=⟨h.wt,fun x hx=>⟨(h.pass x hx).1,by have:=(h.pass x hx).2;omega⟩,fun x hx=>⟨(h.now x hx).1,by have:=(h.now x hx).2;omega⟩⟩
theorem w64 {n:Int}(h0: -9223372036854775808≤n)(h1:n≤9223372036854775807):IntKind.i64.wrap n=n:=by rw[IntKind.wrap_i64];omega
theorem Zdi {w:Int}(h:isW w=true):1≤w∧w≤16:=by simpa [isW] using h
theorem ZaV {w:Int}(h:isW w=true):0<ZaH w∧ZaH w≤720720:=by
 obtain⟨h1,h2⟩:=Zdi h;have:w=1∨w=2∨w=3∨w=4∨w=5∨w=6∨w=7∨w=8∨w=9∨w=10∨w=11∨w=12∨w=13∨w=14∨w=15∨w=16:=by omega
 rcases this with rfl|rfl|rfl|rfl|rfl|rfl|rfl|rfl|rfl|rfl|rfl|rfl|rfl|rfl|rfl|rfl<;>decide
theorem Zie {a b:Int}(ha:0≤a)(hb:0<b):0≤a.tdiv b∧a.tdiv b≤a:=by
 rw[Int.tdiv_eq_ediv_of_nonneg ha];exact⟨Int.ediv_nonneg ha (Int.le_of_lt hb),Int.ediv_le_self b ha⟩
theorem ZaL {N:List Nr}{k:Int}{x:Nr}(h:gt N k=some x):x∈N∧x.id=k:=⟨List.mem_of_find?_eq_some h,by simpa using List.find?_some h⟩
theorem ZaX {N:List Nr}{k:Int}:gt N k=none↔∀x∈N,x.id≠k:=by simp[gt,List.find?_eq_none]
theorem nd_eq {N:List Nr}(h:(N.map (·.id)).Nodup){x y:Nr}(hx:x∈N)(hy:y∈N)(he:x.id=y.id):x=y:=by
  induction N with
  |nil=>cases hx
  | cons a N ih=>
    simp only[List.map_cons,List.nodup_cons,List.mem_map,not_exists,not_and]at h;rcases List.mem_cons.1 hx with e1|h1<;>rcases List.mem_cons.1 hy with e2|h2
    · rw[e1,e2]
    · subst e1;exact absurd he.symm (h.1 y h2)
    · subst e2;exact absurd he (h.1 x h1)
    · exact ih h.2 h1 h2
theorem ZbY {N:List Nr}(h:(N.map (·.id)).Nodup){x:Nr}(hx:x∈N):gt N x.id=some x:=by
 cases hg:gt N x.id with
 |none=>exact absurd rfl (ZaX.1 hg x hx)
 |some y=>obtain⟨h1,h2⟩:=ZaL hg;rw[nd_eq h h1 hx h2]
theorem Zdu {N:List Nr}{k:Int}{f:Nr→Nr}(hf:∀x,(f x).id=x.id):(upN N k f).map (·.id)=N.map (·.id):=by
 simp only[upN,List.map_map];refine List.map_congr_left fun x _=>?_
 simp only[Function.comp];split<;>simp[hf]
theorem Za0 {N:List Nr}{k:Int}{f:Nr→Nr}{y:Nr}:y∈upN N k f↔∃x∈N,(x.id=k∧y=f x)∨(x.id≠k∧y=x):=by
 simp only[upN,List.mem_map];constructor
 ·rintro⟨x,hx,rfl⟩
  refine⟨x,hx,?_⟩;by_cases h:x.id=k
  ·simp[h]
  ·simp[h]
 ·rintro⟨x,hx,⟨h,rfl⟩|⟨h,rfl⟩⟩
  ·exact⟨x,hx,by simp[h]⟩
  ·exact⟨y,hx,by simp[h]⟩
theorem Zpu {N :List Nr} {k j:Int} {f:Nr→Nr} (hf:∀x,(f x).id=x.id):gt (upN N k f) j=if j=k then(gt N j).map f else gt N j:=by
  induction N with
  |nil=>simp[gt,upN]
  | cons a N ih=>
    have e1:gt (upN (a::N) k f) j=if(if a.id==k then f a else a).id==j then some (if a.id==k then f a else a)else gt (upN N k f) j:=by
      simp only[gt,upN,List.map_cons,List.find?_cons];split<;>simp_all
    have e2:gt (a::N) j=if a.id==j then some a else gt N j:=by
      simp only[gt,List.find?_cons];split<;>simp_all
    rw[e1,e2,ih];by_cases h1:a.id=k
    · subst h1
      simp only[beq_self_eq_true,if_true,hf];by_cases h2:a.id=j
      · subst h2;simp
      · have h2':(a.id==j)=false:=by simpa using h2
        have h3:¬j=a.id:=fun h=>h2 h.symm
        simp[h2',h3]
    · have h1':(a.id==k)=false:=by simpa using h1
      simp only[h1',Bool.false_eq_true,if_false];by_cases h2:a.id=j
      · subst h2;simp[h1]
      · have h2':(a.id==j)=false:=by simpa using h2
        simp[h2']
structure Skel (f:Nr→Nr):Prop where
 id:∀x,(f x).id=x.id
 par:∀x,(f x).par=x.par
 thr:∀x,(f x).thr=x.thr
theorem SK.map {N:List Nr}(h:SK N)(f:Nr→Nr)(hf:Skel f):SK (N.map f):=by
 have hi:(N.map f).map (·.id)=N.map (·.id):=by simp[List.map_map,Function.comp_def,hf.id]
 refine⟨hi▸h.nd,?_,?_,?_,by simpa using h.len,?_⟩
 ·obtain⟨r,hr,h0⟩:=h.root;exact⟨f r,List.mem_map.2 ⟨r,hr,rfl⟩,by rw[hf.id,h0]⟩
 ·intro x hx h0;obtain⟨y,hy,rfl⟩:=List.mem_map.1 hx;rw[hf.par,hf.thr];exact h.rt y hy (by rw[←hf.id];exact h0)
 ·intro x hx h0
  obtain⟨y,hy,rfl⟩:=List.mem_map.1 hx;rw[hf.id]at h0 ⊢;obtain⟨h1,p,hp,h2,h3⟩:=h.pa y hy h0;exact⟨h1,f p,List.mem_map.2 ⟨p,hp,rfl⟩,by rw[hf.id,hf.par,h2],by rw[hf.thr,h3]⟩
 ·obtain⟨rk,hk⟩:=h.rk
  refine⟨rk,fun x hx=>?_⟩;obtain⟨y,hy,rfl⟩:=List.mem_map.1 hx;rw[hf.id,hf.par,hf.thr];exact hk y hy
theorem Zbm {k:Int}{f:Nr→Nr}(hf:Skel f):Skel (fun x=>if x.id==k then f x else x):=⟨fun x=>by split;exact hf.id x;rfl,fun x=>by split;exact hf.par x;rfl,fun x=>by split;exact hf.thr x;rfl⟩
theorem SK.upN {N:List Nr}(h:SK N){k:Int}{f:Nr→Nr}(hf:Skel f):SK (upN N k f):=h.map _ (Zbm hf)
def ndc (x:Nd):List Value:=[.int .i64 x.n.id,.int .i64 x.n.par,.int .i64 x.n.wt,.int .i64 x.n.pass,.bool x.n.thr,.bool x.n.rdy,.int .i64 x.n.now,.pointer (some ⟨x.ib,0,none⟩)]
def ndS (x:Nd):SP:=blk x.b 213 (ndc x)
def Zai :List Nd→List SP
 | []=> []
 |x::T=>ndS x::Zco x.ib 60 x.q::Zai T
def kp (x:Nd):Int×Value:=(x.n.id,.pointer (some ⟨x.b,0,none⟩))
theorem SatF.perm {l l':List SP}(h:l.Perm l'):∀{w:World} {F:Nat→Prop},SatF l w F→SatF l' w F:=by
 induction h with
 |nil=>intro w F h;exact h
 |cons x _ ih=>intro w F ⟨G,h1,h2,h3⟩;exact⟨G,h1,h2,ih h3⟩
 |swap x y l=>intro w F h;exact SatF.swap h
 |trans _ _ ih1 ih2=>intro w F h;exact ih2 (ih1 h)
theorem Sat.perm {l l':List SP}(h:l.Perm l'){w:World}(hs:Sat w l):Sat w l':=SatF.perm h hs
theorem ZdG {T T':List Nd}(h:T.Perm T'):(Zai T).Perm (Zai T'):=by
  induction h with
  |nil=>exact .refl _
  |cons x _ ih=>exact(ih.cons _).cons _
  | swap x y l=>
    simp only[Zai];have e:∀(a b c d:SP) (l:List SP),(a::b::c::d::l).Perm (c::d::a::b::l):=fun a b c d l=>by
      have:=(List.perm_append_comm (l₁:=[a,b]) (l₂:=[c,d])).append_right l;simpa using this
    exact e _ _ _ _ _
  |trans _ _ ih1 ih2=>exact ih1.trans ih2
theorem ZkO {T:List Nd}{x:Nd}(h:x∈T):ndS x∈Zai T:=by
  induction T with
  |nil=>cases h
  | cons a T ih=>
    rcases List.mem_cons.1 h with rfl|h
    · exact .head _
    · exact .tail _ (.tail _ (ih h))
theorem Zbe {T:List Nd}{H:List SP}{x:Nd}(hx:x∈T){j:Nat}{v:Value}(hj:(ndc x)[j]? =some v):∀w,Sat w (Zai T++H)→w.cell? ⟨x.b,j,none⟩=some v:=by
 intro w hs;obtain⟨i,hi⟩:=List.mem_iff_getElem?.1 (List.mem_append_left H (ZkO hx));exact ZaS (b:=x.b) (T:=213) (cs:=ndc x) i hi hj w hs
theorem ZiK {T:List Nd}{i:Nat}{x:Nd}(h:T[i]? =some x):∃R,T.Perm (x::R)∧∀x',(T.set i x').Perm (x'::R):=by
  induction T generalizing i with
  |nil=>simp at h
  | cons a T ih=>
    cases i with
    |zero=>simp at h;subst h;exact⟨T,.refl _,fun _=> .refl _⟩
    | succ i=>
      obtain⟨R,h1,h2⟩:=ih (by simpa using h);exact⟨a::R,(h1.cons a).trans (.swap _ _ _),fun x'=>by simpa using((h2 x').cons a).trans (.swap _ _ _)⟩
theorem Zoe {T :List Nd} {i j:Nat} {x p:Nd} (hi:T[i]? =some x) (hj:T[j]? =some p) (hn:i≠j):∃R,T.Perm (x::p::R)∧∀x' p',((T.set i x').set j p').Perm (x'::p'::R):=by
  induction T generalizing i j with
  |nil=>simp at hi
  | cons a T ih=>
    cases i with
    | zero=>
      cases j with
      |zero=>exact absurd rfl hn
      | succ j=>
        simp at hi;subst hi;obtain⟨R,h1,h2⟩:=ZiK (T:=T) (i:=j) (x:=p) (by simpa using hj);exact⟨R,h1.cons _,fun x' p'=>by simpa using(h2 p').cons x'⟩
    | succ i=>
      cases j with
      | zero=>
        simp at hj;subst hj;obtain⟨R,h1,h2⟩:=ZiK (T:=T) (i:=i) (x:=x) (by simpa using hi);exact⟨R,(h1.cons _).trans (.swap _ _ _),fun x' p'=>by simpa using((h2 x').cons p').trans (.swap _ _ _)⟩
      | succ j=>
        obtain⟨R,h1,h2⟩:=ih (i:=i) (j:=j) (by simpa using hi) (by simpa using hj) (by omega);have e:∀(a b c:Nd) (l:List Nd),(a::b::c::l).Perm (b::c::a::l):=fun a b c l=>(List.Perm.swap b a (c::l)).trans ((List.Perm.swap c a l).cons b)
        exact⟨a::R,(h1.cons a).trans (e _ _ _ _),fun x' p'=>by simpa using((h2 x' p').cons a).trans (e _ _ _ _)⟩
end Go.Proofs.YtfhkgohokbkgiaaGreatDoor
namespace Go.Proofs.YtfhkgohokbkgiaaGreatDoor
open Go.RowKit Go.Maps Go.Sort Go.Shelf G
def Znz :Go.Shelf.Ren:=⟨fun|7=>96|10=>140|n=>n,fun|23=>207|26=>3|3=>208|28=>205|0=>0|27=>204|33=>129|4=>4|n=>n,fun|n=>n⟩
theorem LyK :SlLaysZI.n7 Tryz.prog Znz where
 mixed:=by kernel_rfl
 f7:=⟨ "maps.Keys[map[int]*tontine/tree.node,int,*tontine/tree.node]",by decide,Tryz.func96.trans (congrArg some Kr)⟩
 f10:=⟨ "maps.Keys[map[int]*tontine/tree.node,int,*tontine/tree.node]$1",by decide,Tryz.func140.trans (congrArg some Kr)⟩
 t0:=Tryz.underlying0
 a0:=Tryz.isAgg0
 z0:=Tryz.sizeOf0
 v0:=Tryz.zeroValue0
 t4:=Tryz.underlying4
 a4:=Tryz.isAgg4
 z4:=Tryz.sizeOf4
 v4:=Tryz.zeroValue4
 t23:=Tryz.underlying207
 a23:=Tryz.isAgg207
 z23:=Tryz.sizeOf207
 v23:=Tryz.zeroValue207
 t26:=Tryz.underlying3
 a26:=Tryz.isAgg3
 z26:=Tryz.sizeOf3
 v26:=Tryz.zeroValue3
 t27:=Tryz.underlying204
 a27:=Tryz.isAgg204
 z27:=Tryz.sizeOf204
 v27:=Tryz.zeroValue204
 t28:=Tryz.underlying205
 a28:=Tryz.isAgg205
 z28:=Tryz.sizeOf205
 v28:=Tryz.zeroValue205
 t33:=Tryz.underlying129
 a33:=Tryz.isAgg129
 z33:=Tryz.sizeOf129
 v33:=Tryz.zeroValue129
def Zny :Go.Shelf.Ren:=⟨fun|6=>95|8=>138|9=>139|11=>186|13=>188|12=>187|23=>220|24=>221|14=>211|15=>212|16=>213|17=>214|18=>215|19=>216|20=>217|21=>218|22=>219|25=>231|26=>232|27=>233|28=>234|29=>235|30=>236|31=>249|n=>n,fun|26=>3|28=>205|24=>42|0=>0|3=>3|37=>297|48=>319|50=>39|4=>4|40=>312|39=>311|45=>83|5=>5|9=>9|51=>328|55=>332|57=>342|58=>235|33=>129|n=>n,fun|n=>n⟩
theorem LyO :SlLaysZI.n6 Tryz.prog Zny where
 mixed:=by kernel_rfl
 f6:=⟨ "slices.Sorted[int]",by decide,Tryz.func95.trans (congrArg some Kr)⟩
 f8:=⟨ "slices.Collect[int]",by decide,Tryz.func138.trans (congrArg some Kr)⟩
 f11:=⟨ "slices.AppendSeq[[]int,int]",by decide,Tryz.func186.trans (congrArg some Kr)⟩
 t0:=Tryz.underlying0
 a0:=Tryz.isAgg0
 z0:=Tryz.sizeOf0
 v0:=Tryz.zeroValue0
 t24:=Tryz.underlying42
 a24:=Tryz.isAgg42
 z24:=Tryz.sizeOf42
 v24:=Tryz.zeroValue42
 t26:=Tryz.underlying3
 a26:=Tryz.isAgg3
 z26:=Tryz.sizeOf3
 v26:=Tryz.zeroValue3
 t28:=Tryz.underlying205
 a28:=Tryz.isAgg205
 z28:=Tryz.sizeOf205
 v28:=Tryz.zeroValue205
 i26:=by kernel_rfl
def Zq2 :Go.Shelf.Ren:=⟨fun|5=>139|8=>188|7=>187|19=>220|20=>221|10=>211|11=>212|12=>213|13=>214|14=>215|15=>216|16=>217|17=>218|18=>219|30=>231|31=>232|32=>233|33=>234|34=>235|35=>236|40=>249|n=>n,fun|23=>42|25=>3|3=>3|32=>297|22=>42|0=>0|44=>319|46=>39|4=>4|36=>312|35=>311|41=>83|5=>5|9=>9|53=>328|57=>332|63=>342|64=>235|n=>n,fun|n=>n⟩
theorem LyQ :SlLaysM.n5 Tryz.prog Zq2 where
 mixed:=by kernel_rfl
 f5:=⟨ "slices.Sort[[]int,int]",by decide,Tryz.func139.trans (congrArg some Kr)⟩
 f7:=⟨ "slices.pdqsortOrdered[int]",by decide,Tryz.func187.trans (congrArg some Kr)⟩
 f8:=Tryz.func188.trans (congrArg some Kr)
 f10:=⟨ "slices.insertionSortOrdered[int]",by decide,Tryz.func211.trans (congrArg some Kr)⟩
 f11:=⟨ "slices.heapSortOrdered[int]",by decide,Tryz.func212.trans (congrArg some Kr)⟩
 f12:=⟨ "slices.breakPatternsOrdered[int]",by decide,Tryz.func213.trans (congrArg some Kr)⟩
 f13:=⟨ "slices.choosePivotOrdered[int]",by decide,Tryz.func214.trans (congrArg some Kr)⟩
 f14:=⟨ "slices.reverseRangeOrdered[int]",by decide,Tryz.func215.trans (congrArg some Kr)⟩
 f15:=⟨ "slices.partialInsertionSortOrdered[int]",by decide,Tryz.func216.trans (congrArg some Kr)⟩
 f16:=⟨ "cmp.Less[int]",by decide,Tryz.func217.trans (congrArg some Kr)⟩
 f17:=⟨ "slices.partitionEqualOrdered[int]",by decide,Tryz.func218.trans (congrArg some Kr)⟩
 f18:=⟨ "slices.partitionOrdered[int]",by decide,Tryz.func219.trans (congrArg some Kr)⟩
 f19:=Tryz.func220.trans (congrArg some Kr)
 f20:=Tryz.func221.trans (congrArg some Kr)
 f30:=⟨ "slices.siftDownOrdered[int]",by decide,Tryz.func231.trans (congrArg some Kr)⟩
 f31:=Tryz.func232.trans (congrArg some Kr)
 f32:=Tryz.func233.trans (congrArg some Kr)
 f33:=⟨ "slices.medianAdjacentOrdered[int]",by decide,Tryz.func234.trans (congrArg some Kr)⟩
 f34:=⟨ "slices.medianOrdered[int]",by decide,Tryz.func235.trans (congrArg some Kr)⟩
 f35:=⟨ "cmp.isNaN[int]",by decide,Tryz.func236.trans (congrArg some Kr)⟩
 f40:=⟨ "slices.order2Ordered[int]",by decide,Tryz.func249.trans (congrArg some Kr)⟩
 t0:=Tryz.underlying0
 a0:=Tryz.isAgg0
 z0:=Tryz.sizeOf0
 v0:=Tryz.zeroValue0
 t3:=Tryz.underlying3
 a3:=Tryz.isAgg3
 z3:=Tryz.sizeOf3
 v3:=Tryz.zeroValue3
 t4:=Tryz.underlying4
 a4:=Tryz.isAgg4
 z4:=Tryz.sizeOf4
 v4:=Tryz.zeroValue4
 t5:=Tryz.underlying5
 a5:=Tryz.isAgg5
 z5:=Tryz.sizeOf5
 v5:=Tryz.zeroValue5
 t9:=Tryz.underlying9
 a9:=Tryz.isAgg9
 z9:=Tryz.sizeOf9
 v9:=Tryz.zeroValue9
 t22:=Tryz.underlying42
 a22:=Tryz.isAgg42
 z22:=Tryz.sizeOf42
 v22:=Tryz.zeroValue42
 t23:=Tryz.underlying42
 a23:=Tryz.isAgg42
 z23:=Tryz.sizeOf42
 v23:=Tryz.zeroValue42
 t25:=Tryz.underlying3
 a25:=Tryz.isAgg3
 z25:=Tryz.sizeOf3
 v25:=Tryz.zeroValue3
 t32:=Tryz.underlying297
 a32:=Tryz.isAgg297
 z32:=Tryz.sizeOf297
 v32:=Tryz.zeroValue297
 t35:=Tryz.underlying311
 a35:=Tryz.isAgg311
 z35:=Tryz.sizeOf311
 v35:=Tryz.zeroValue311
 t36:=Tryz.underlying312
 a36:=Tryz.isAgg312
 z36:=Tryz.sizeOf312
 v36:=Tryz.zeroValue312
 t41:=Tryz.underlying83
 a41:=Tryz.isAgg83
 z41:=Tryz.sizeOf83
 v41:=Tryz.zeroValue83
 t44:=Tryz.underlying319
 a44:=Tryz.isAgg319
 z44:=Tryz.sizeOf319
 v44:=Tryz.zeroValue319
 t46:=Tryz.underlying39
 a46:=Tryz.isAgg39
 z46:=Tryz.sizeOf39
 v46:=Tryz.zeroValue39
 t53:=Tryz.underlying328
 a53:=Tryz.isAgg328
 z53:=Tryz.sizeOf328
 v53:=Tryz.zeroValue328
 t57:=Tryz.underlying332
 a57:=Tryz.isAgg332
 z57:=Tryz.sizeOf332
 v57:=Tryz.zeroValue332
 t63:=Tryz.underlying342
 a63:=Tryz.isAgg342
 z63:=Tryz.sizeOf342
 v63:=Tryz.zeroValue342
 t64:=Tryz.underlying235
 a64:=Tryz.isAgg235
 z64:=Tryz.sizeOf235
 v64:=Tryz.zeroValue235
theorem ZpO (m:Nat):AnyZI.SortsIn Tryz.prog Zny Fence.wide m:=
  ⟨fun blk off cap ss W hH hblk hsz=>callsIn_wide.2 (AnyM.slices_Sort_int LyQ blk off cap ss W hH hblk hsz),
   fun p cap W=>callsIn_wide.2 (AnyM.slices_Sort_int_none LyQ p cap W)⟩
theorem Zfh {H:Type}(x:Lit×DataW H):∀(l:List (Lit×DataW H)),(DataW.insert x l).Perm (x::l)
  | []=> .refl _
  | y::r=>by
    unfold DataW.insert;split
    · exact .refl _
    · exact((Zfh x r).cons y).trans (.swap _ _ _)
theorem ZbZ {H:Type}:∀(l:List (Lit×DataW H)),(l.foldr DataW.insert []).Perm l
  | []=> .refl _
  | x::l=>by
    rw[List.foldr_cons];exact(Zfh x _).trans ((ZbZ l).cons x)
def noR :Value→Option (DataW Unit×List MemPlace):=fun _=>some (.nil,[])
theorem ZmE {b:Nat}{l:List (Int×Value)}{w:World}{F:Nat→Prop}(h:(Zbl b l).holds w F)(hl:l.length≤1000000)(hw:∀p∈l,(Lit.int .i64 p.1).wf=true):
  ∃D:DataW Unit,w.ownsMap Tryz.prog 3 noR b l.length D∧(intKeys D).Perm (l.map (·.1))∧Maps.size D=l.length:=by
 obtain⟨⟨es,ck,hb,hst,he⟩,_⟩:=h;have hlen:es.size=l.length:=by simpa [ZeB] using congrArg List.length he
 have hkey:∀x∈es.toList,∃a:Int,x.key= .int .i64 a∧(Lit.int .i64 a).wf=true∧WideElems.rd Tryz.prog 3 noR x=some (.int .i64 a,.nil):=by
  intro x hx;have hm:ZcK x∈ZeB l:=he▸List.mem_map.2 ⟨x,hx,rfl⟩;obtain⟨p,hp,hpe⟩:=List.mem_map.1 hm;simp only[ZcK,Prod.mk.injEq]at hpe;refine⟨p.1,hpe.1.symm,hw p hp,?_⟩;unfold WideElems.rd;rw[←hpe.1,keyOf_int_mk Tryz.underlying3 (hw p hp)];rfl
 have hrg:es.toList.map (WideElems.rg Tryz.prog 3 noR)=l.map (fun p=>(Lit.int .i64 p.1,DataW.nil)):=by
  have h1:∀x∈es.toList,WideElems.rg Tryz.prog 3 noR x=(match(ZcK x).1 with| .int _ a=>(Lit.int .i64 a,DataW.nil)|_=>(.bool false,.nil)):=by
   intro x hx;obtain⟨a,ha,_,hr⟩:=hkey x hx;unfold WideElems.rg;rw[hr,ZcK,ha];rfl
  have h2:es.toList.map (WideElems.rg Tryz.prog 3 noR)=(es.toList.map ZcK).map (fun z=>(match z.1 with| .int _ a=>(Lit.int .i64 a,(DataW.nil:DataW Unit))|_=>(.bool false,.nil))):=by
   rw[List.map_map];exact List.map_congr_left h1
  rw[h2,he,ZeB,List.map_map];rfl
 refine⟨_,⟨es,ck,hb,⟨by unfold maxLen;omega,hst,fun x hx=>by obtain⟨a,_,_,hr⟩:=hkey x hx;exact⟨_,hr⟩⟩,by omega,rfl⟩,?_,?_⟩
 ·rw[hrg]
  show(List.map (fun p:Lit×DataW Unit=>Go.intOf p.1) _).Perm _;refine((ZbZ _).map _).trans ?_;rw[List.map_map];exact .refl _
 ·rw[hrg]
  show(List.foldr DataW.insert [] _).length=_;rw[(ZbZ _).length_eq,List.length_map]
def ZbA (l:List Int):List Int:=l.mergeSort fun x y=>decide (x≤y)
theorem ZgR (l:List Int):(ZbA l).length=l.length:=List.length_mergeSort l
theorem ZlO {l:List Int}{x:Int}:x∈ZbA l↔x∈l:=(List.mergeSort_perm l _).mem_iff
theorem ZmX (H:List SP)(mb:Nat):U1 96 #[.map (some mb)] H (ι:=Nat) (fun b=> .func (.func 140) #[] #[vp b]) fun b=>blk b 207 [.map (some mb)]::H:=by
 intro w hs;refine((callsIn_wide (n:=1)).1 (AnyZI.keys_in LyK Fence.wide 1 trivial rfl (some mb) w)).mono ?_;rintro e w' ⟨rfl,rfl⟩;exact⟨w.heap.size,rfl,Sat.fresh hs (Upd.alloc _ _ _) (G':=fun b=>b=w.heap.size) ⟨Blk.new w _ _,fun _=>Iff.rfl⟩ (fun b hb=>by omega)⟩
theorem Zif (H:List SP)(b mb:Nat)(l:List (Int×Value))(hl:l.length≤1000000)(hwf:∀p∈l,(Lit.int .i64 p.1).wf=true):∀w,Sat w (blk b 207 [.map (some mb)]::Zbl mb l::H)→Calls Tryz.prog 95 #[.func (.func 140) #[] #[vp b]] w
    (Ret (ι:=AN) (fun x=> .slice x.1 (ZbA (l.map (·.1))).length x.2) fun x=>row Zm1 3 (.slice x.1 (ZbA (l.map (·.1))).length x.2) (ZbA (l.map (·.1)))::blk b 207 [.map (some mb)]::Zbl mb l::H):=by
  intro w hs;obtain⟨G1,⟨hb,_⟩⟩:=hs.head;obtain⟨G2,hm⟩:=hs.tail.head;obtain⟨D,hown,hperm,hsize⟩:=ZmE hm hl hwf;have hbl:b<w.heap.size:=hb.lt;have hcell:w.cell? ⟨b,0,none⟩=some (.map (some mb)):=hb.cell 0;have hseq:SeqGives Fence.wide 2 Tryz.prog 140 #[.pointer (some ⟨b,0,none⟩)] encZ (fun ss=>ss.Perm (intKeys D)) (Maps.size D) w:=
    AnyZI.keys_gives (ρ:=Znz) {LyK with} Fence.wide _ trivial rfl (by omega) b mb l.length D w hbl hcell hown
  have cS:=AnyZI.sorted_in LyO Fence.wide 5 trivial trivial trivial trivial rfl (by omega) (ZpO _) (enters_of Tryz.func139 Kr rfl) 140 #[.pointer (some ⟨b,0,none⟩)] trivial (enters_of Tryz.func140 Kr rfl) _ _ (by rw[hsize];unfold maxLen;omega) (by rw[hsize];omega) _ hseq;refine(callsIn_wide.1 cS).mono ?_;rintro e w' ⟨v,ss,rfl,hS,hrow,hnil,hbel⟩;have hsort:ss.mergeSort (fun x y=>decide (x≤y))=ZbA (l.map (·.1)):=mergeSort_of_perm_i (hS.trans hperm);have hlen:ss.length=(ZbA (l.map (·.1))).length:=by rw[←hsort,List.length_mergeSort]
  rw[hsort,hlen]at hrow;have hflat:∀xs:List Int,Zm1.flat xs=xs.map encZ:=by
    intro xs;induction xs with
    |nil=>rfl
    | cons a r ih=>
      show [Value.int .i64 a]++Zm1.flat r=_;rw[ih];rfl
  have hu:Upd NoB w w':=Upd.ofBelow hbel;rcases hrow.2 with⟨rfl,hz⟩|⟨g,cap,cur,rfl,hbase,hgb,r1,r2,r3,r4⟩
  · have h0:ZbA (l.map (·.1))=[]:=List.eq_nil_of_length_eq_zero hz
    refine⟨(none,0),by rw[hz],?_⟩;rw[h0];exact Sat.fresh hs hu (G':=NoB) (.inl ⟨rfl,rfl,rfl⟩) (fun _ h=>h.elim)
  · refine⟨(some ⟨g,0,none⟩,cap),rfl,Sat.fresh hs hu (G':=ZbN g) (.inr ⟨g,0,cap,cur,rfl,rfl,hgb,r1,r2,?_,?_⟩) (fun b' hb'=>by cases hb';exact hbase)⟩
    · rw[r3];show 0+cap*1≤cap*1;omega
    · rw[List.drop_zero,hflat];exact r4
end Go.Proofs.YtfhkgohokbkgiaaGreatDoor
namespace Go.Proofs.YtfhkgohokbkgiaaGreatDoor
open Ieee
def fi (n:Int):Nat:=FloatKind.f64.nearest n
theorem Zr3 (n:Int):fi n=floatOfInt .f64 n:=rfl
theorem ZcQ :double.leastPlace= -1074:=by decide
theorem Zfs :double.binade=2^52:=rfl
theorem ZcO :double.signWeight=2^63:=rfl
theorem Zeo :double.infRung=2047*2^52:=rfl
theorem e52 :(2:Nat)^52=4503599627370496:=rfl
theorem e53 :(2:Nat)^53=9007199254740992:=rfl
theorem e63 :(2:Nat)^63=9223372036854775808:=rfl
theorem ZhN (s:Bool)(n d:Nat)(hn:0<n):Toward.even.cut s (n*2^d) d=n:=by
 have hl:d≤(n*2^d).log2:=by
  rw[Nat.le_log2 (Nat.ne_of_gt (Nat.mul_pos hn (Nat.two_pow_pos d)))];exact Nat.le_mul_of_pos_left _ hn
 unfold Toward.cut;rw[Nat.min_eq_left (by omega),Nat.one_shiftLeft];simp only[Nat.mul_div_cancel _ (Nat.two_pow_pos d),Nat.mul_mod_left,Nat.mul_zero];have h1:decide (2^d<0)=false:=decide_eq_false (Nat.not_lt_zero _);have h2:((2^d:Nat)==0)=false:=by
  have:=Nat.two_pow_pos d;simp only[beq_eq_false_iff_ne];omega
 rw[h1,h2];simp
theorem Zj0 (s:Bool)(n:Nat):Toward.even.cut s n 0=n:=by
 unfold Toward.cut;simp[Nat.mod_one]
theorem ZfS (s :Bool) (m e:Nat) (hm:0<m) (hb:m<2^53) (he:e≤1000):
    double.nearest s (m*2^e) (-(e:Int))=double.word s ((m.log2+1022)*2^52+m*2^ (52-m.log2)):=by
  have hlg:m.log2<53:=(Nat.log2_lt (by omega)).2 hb;have hle:(m*2^e).log2=m.log2+e:=by
    refine(Nat.log2_eq_iff (Nat.ne_of_gt (Nat.mul_pos hm (Nat.two_pow_pos e)))).2 ⟨?_,?_⟩
    · rw[Nat.pow_add];exact Nat.mul_le_mul_right _ (Nat.log2_self_le (by omega))
    · rw[show m.log2+e+1=(m.log2+1)+e by omega,Nat.pow_add]
      exact Nat.mul_lt_mul_of_pos_right Nat.lt_log2_self (Nat.two_pow_pos e)
  unfold Format.nearest;rw[if_neg (Nat.ne_of_gt (Nat.mul_pos hm (Nat.two_pow_pos e))),hle,ZcQ,Zfs,Zeo];have hfb:double.fractionBits=52:=rfl;rw[hfb];have hlast:max (-(e:Int)+((m.log2+e:Nat):Int)- ((52:Nat):Int)) (-1074)=(m.log2:Int)-52:=by omega
  simp only[hlast];have hkept:Toward.even.cut s ((m*2^e)<<< (-(e:Int)- ((m.log2:Int)-52)).toNat) ((m.log2:Int)-52- -(e:Int)).toNat=m*2^ (52-m.log2):=by
    by_cases c:e≤52-m.log2
    · rw[show((m.log2:Int)-52- -(e:Int)).toNat=0 by omega,show(-(e:Int)- ((m.log2:Int)-52)).toNat=52-m.log2-e by omega,Zj0,Nat.shiftLeft_eq,Nat.mul_assoc,←Nat.pow_add]
      congr 2;omega
    · rw[show(-(e:Int)- ((m.log2:Int)-52)).toNat=0 by omega,Nat.shiftLeft_zero,show((m.log2:Int)-52- -(e:Int)).toNat=e- (52-m.log2)by omega]
      have:m*2^e=m*2^ (52-m.log2)*2^ (e- (52-m.log2)):=by
        rw[Nat.mul_assoc,←Nat.pow_add];congr 2;omega
      rw[this];exact ZhN s _ _ (Nat.mul_pos hm (Nat.two_pow_pos _))
  rw[hkept,show((m.log2:Int)-52- -1074).toNat=m.log2+1022 by omega];have hup:m*2^ (52-m.log2)<2^53:=by
    have h1:m<2^ (m.log2+1):=Nat.lt_log2_self;have h2:m*2^ (52-m.log2)<2^ (m.log2+1)*2^ (52-m.log2):=Nat.mul_lt_mul_of_pos_right h1 (Nat.two_pow_pos _);rw[←Nat.pow_add,show m.log2+1+(52-m.log2)=53 by omega]at h2;exact h2
  rw[Nat.min_eq_left];have:(m.log2+1022)*2^52≤1074*2^52:=Nat.mul_le_mul_right _ (by omega);generalize m*2^ (52-m.log2)=X at hup ⊢;generalize m.log2=L at hlg ⊢;clear hlast hkept hle hfb this;rw[e52];rw[e53]at hup;omega
theorem Zmh (s:Bool)(m:Nat)(hm:0<m)(hb:m<2^53):
  double.read (double.word s ((m.log2+1022)*2^52+m*2^ (52-m.log2)))= .number s (m*2^ (52-m.log2)) (-((52-m.log2:Nat):Int)):=by
 have hlg:m.log2<53:=(Nat.log2_lt (by omega)).2 hb;have hlo:2^52≤m*2^ (52-m.log2):=by
  have h1:2^m.log2≤m:=Nat.log2_self_le (by omega);have h2:2^m.log2*2^ (52-m.log2)≤m*2^ (52-m.log2):=Nat.mul_le_mul_right _ h1;rw[←Nat.pow_add,show m.log2+(52-m.log2)=52 by omega]at h2;exact h2
 have hup:m*2^ (52-m.log2)<2^53:=by
  have h1:m<2^ (m.log2+1):=Nat.lt_log2_self;have h2:m*2^ (52-m.log2)<2^ (m.log2+1)*2^ (52-m.log2):=Nat.mul_lt_mul_of_pos_right h1 (Nat.two_pow_pos _);rw[←Nat.pow_add,show m.log2+1+(52-m.log2)=53 by omega]at h2;exact h2
 obtain⟨M,hM⟩:∃M,M=m*2^ (52-m.log2):=⟨_,rfl⟩
 rw[←hM]at hlo hup ⊢;obtain⟨L,hL⟩:∃L,L=m.log2:=⟨_,rfl⟩
 rw[←hL]at hlg ⊢;rw[e52]at hlo ⊢;rw[e53]at hup;clear hM hL hb hm;have hr:(L+1022)*4503599627370496+M<9223372036854775808:=by omega
 have hmod:double.word s ((L+1022)*4503599627370496+M)%9223372036854775808=(L+1022)*4503599627370496+M:=by
  unfold Format.word;rw[ZcO,e63];split<;>omega
 have hdiv:(double.word s ((L+1022)*4503599627370496+M)/9223372036854775808%2==1)=s:=by
  unfold Format.word;rw[ZcO,e63];cases s
  ·simp only[Bool.false_eq_true,if_false]
   rw[Nat.div_eq_of_lt hr];rfl
  ·simp only[if_true]
   have:(9223372036854775808+((L+1022)*4503599627370496+M))/9223372036854775808=1:=by omega
   rw[this];rfl
 unfold Format.read;rw[ZcO,e63,hmod,hdiv,Zfs,Zeo,ZcQ,e52];have hb1:¬((L+1022)*4503599627370496+M<4503599627370496):=by omega
 have hb2:(L+1022)*4503599627370496+M<2047*4503599627370496:=by omega
 simp only[if_neg hb1,if_pos hb2];have hd:((L+1022)*4503599627370496+M)/4503599627370496=L+1023:=by omega
 have hm2:4503599627370496+((L+1022)*4503599627370496+M)%4503599627370496=M:=by omega
 rw[hd,hm2];have hpl:(-1074:Int)+((L+1023-1:Nat):Int)= -((52-L:Nat):Int):=by clear hd hm2 hb1 hb2 hmod hdiv hr hlo hup;omega
 rw[hpl]
theorem Zi8 (n:Int)(h0:n≠0)(hb:n.natAbs<2^53):fi n=double.word (decide (n<0)) ((n.natAbs.log2+1022)*2^52+n.natAbs*2^ (52-n.natAbs.log2)):=by
 have:=ZfS (decide (n<0)) n.natAbs 0 (by omega) hb (by omega);rw[Nat.pow_zero,Nat.mul_one]at this;exact this
theorem fi_zero :fi 0=0:=by decide
theorem Zmg :double.read 0= .number false 0 (-1074):=by decide
theorem Zfj (n:Int)(hb:n.natAbs<2^53):∃e:Nat,e≤1074∧double.read (fi n)= .number (decide (n<0)) (n.natAbs*2^e) (-(e:Int))∧(n≠0→e≤52):=by
 by_cases h0:n=0
 ·subst h0
  obtain⟨e,he⟩:∃e:Nat,e=1074:=⟨_,rfl⟩
  exact⟨e,by omega,by rw[fi_zero,Zmg,Int.natAbs_zero,Nat.zero_mul,he];rfl,fun h=>absurd rfl h⟩
 ·exact⟨52-n.natAbs.log2,by omega,by rw[Zi8 n h0 hb];exact Zmh _ _ (by omega) hb,fun _=>by omega⟩
theorem ZeS (n:Int)(e k:Nat):signed (decide (n<0)) (n.natAbs*2^e) k=n*2^ (e+k):=by
 unfold signed;rw[Nat.shiftLeft_eq,Nat.mul_assoc,←Nat.pow_add];have hp:((n.natAbs*2^ (e+k):Nat):Int)=(n.natAbs:Int)*2^ (e+k):=by simp
 by_cases h:n<0
 ·rw[decide_eq_true h,if_pos rfl,hp,show(n.natAbs:Int)= -n by omega,Int.neg_mul,Int.neg_neg]
 ·rw[decide_eq_false h,if_neg (by simp),hp,show(n.natAbs:Int)=n by omega]
theorem Zeu (e:Nat):(0:Int)<2^e:=by
 have:=Nat.two_pow_pos e;have h:((2^e:Nat):Int)=(2:Int)^e:=by simp
 omega
theorem Znj (a b c:Int)(hc:0<c):compare (a*c) (b*c)=compare a b:=by
 show compareOfLessAndEq _ _=compareOfLessAndEq _ _;unfold compareOfLessAndEq;by_cases h:a<b
 ·rw[if_pos h,if_pos (Int.mul_lt_mul_of_pos_right h hc)]
 ·by_cases h2:a=b
  ·subst h2;simp
  ·have h3:b<a:=by omega
   have h4:=Int.mul_lt_mul_of_pos_right h3 hc;rw[if_neg h,if_neg h2,if_neg (by omega),if_neg (by omega)]
theorem ZoI (a b:Int)(ha:a.natAbs<2^53)(hb:b.natAbs<2^53):FloatKind.f64.format.order (fi a) (fi b)=some (compare a b):=by
 obtain⟨e,_,he,_⟩:=Zfj a ha;obtain⟨d,_,hd,_⟩:=Zfj b hb;show double.order _ _=_;unfold Format.order;rw[he,hd];simp only[Datum.order,ZeS];rw[show e+(-(e:Int)-min (-(e:Int)) (-(d:Int))).toNat=max e d by omega,show d+(-(d:Int)-min (-(e:Int)) (-(d:Int))).toNat=max e d by omega,Znj _ _ _ (Zeu _)]
theorem Zr2 (n :Int) (hb:n.natAbs<2^53):floatToIntVal .f64 (fi n) .i64=some n:=by
  obtain⟨e,_,he,_⟩:=Zfj n hb;unfold floatToIntVal;have hr:(FloatKind.f64.decode (fi n))= .number (decide (n<0)) (n.natAbs*2^e) (-(e:Int)):=he;rw[hr];have hc:Toward.zero.cut (decide (n<0)) ((n.natAbs*2^e)<<< (-(e:Int)).toNat) (- -(e:Int)).toNat=n.natAbs:=by
    rw[show(-(e:Int)).toNat=0 by omega,Nat.shiftLeft_zero,show(- -(e:Int)).toNat=e by omega];unfold Toward.cut;by_cases h0:n.natAbs=0
    · rw[h0];simp
    · have hl:e≤(n.natAbs*2^e).log2:=by
        rw[Nat.le_log2 (Nat.ne_of_gt (Nat.mul_pos (by omega) (Nat.two_pow_pos e)))];exact Nat.le_mul_of_pos_left _ (by omega)
      rw[Nat.min_eq_left (by omega),Nat.one_shiftLeft];simp[Nat.mul_div_cancel _ (Nat.two_pow_pos e)]
  have hi:(Datum.number (decide (n<0)) (n.natAbs*2^e) (-(e:Int))).toInt .zero=some n:=by
    unfold Datum.toInt Datum.integral;simp only[hc];congr 1;have:=ZeS n 0 0;simpa using this
  rw[hi];have h1:IntKind.i64.min= -9223372036854775808:=rfl;have h2:IntKind.i64.max=9223372036854775807:=rfl;simp only[h1,h2];rw[if_pos (by omega)]
theorem ZgE (n:Int)(e:Nat)(hb:n.natAbs<2^53)(he:e≤1000∨n=0):double.write (.number (decide (n<0)) (n.natAbs*2^e) (-(e:Int)))=fi n:=by
 by_cases h0:n=0
 ·subst h0
  show double.nearest _ _ _=_;unfold Format.nearest;simp[fi_zero,Format.word]
 ·rw[Zi8 n h0 hb]
  exact ZfS _ _ _ (by omega) hb (by omega)
end Go.Proofs.YtfhkgohokbkgiaaGreatDoor
namespace Go.Proofs.YtfhkgohokbkgiaaGreatDoor
open Go.RowKit G Tryz
theorem Zfm {a:Int}(ha:a.natAbs<2^53)(w:World):(convert 241 3 (.float .f64 (floatOfInt .f64 a))).run Tryz.prog w= .ok (.int .i64 a) w:=
 run_convert_float_int w 241 3 .f64 .i64 (floatOfInt .f64 a) a Kr underlying3 (by have:=Zr2 a ha;rwa[Zr3]at this)
theorem ZqL {l:List (Int×Int)}{id:Int}(h:∀e∈l,e.2≠id):Zb6 l id= -1:=by
 rcases findI_cases l id with⟨h1,_⟩|⟨i,e,_,he,hid,_⟩
 ·exact h1
 ·exact absurd hid (h e (gMm he))
theorem mem_insE {e :Int×Int}:∀{l:List (Int×Int)} {x:Int×Int},x∈Zd6 e l↔x=e∨x∈l
  | [],x=>by simp[Zd6]
  | y ::r,x=>by
    unfold Zd6;split
    · rw[List.mem_cons,mem_insE,List.mem_cons]
      constructor
      · rintro(h|h|h)
        · exact .inr (.inl h)
        · exact .inl h
        · exact .inr (.inr h)
      · rintro(h|h|h)
        · exact .inr (.inl h)
        · exact .inl h
        · exact .inr (.inr h)
    · simp
theorem ZjQ (e:Int×Int):∀(l:List (Int×Int)),(Zd6 e l).length=l.length+1
  | []=>rfl
  | y::r=>by
    unfold Zd6;split
    · simp[ZjQ e r]
    · simp
theorem SrtE.ins {e :Int×Int}:∀{l:List (Int×Int)},SrtE l→(∀x∈l,x≠e)→SrtE (Zd6 e l)
  | [],_,_=>by simp[Zd6,SrtE]
  | y ::r,h,hn=>by
    have h':=List.pairwise_cons.1 h;unfold Zd6;split
    · rename_i hlt
      refine List.pairwise_cons.2 ⟨fun z hz=>?_,SrtE.ins (l:=r) h'.2 (fun x hx=>hn x (by simp[hx]))⟩;rcases mem_insE.1 hz with rfl|hz
      · exact hlt
      · exact h'.1 z hz
    · rename_i hlt
      have hey:eLt e y:=by
        rcases eLt_total hlt with h|h
        · exact absurd h (hn y (by simp))
        · exact h
      refine List.pairwise_cons.2 ⟨fun z hz=>?_,h⟩;rcases List.mem_cons.1 hz with rfl|hz
      · exact hey
      · exact ZcL hey (h'.1 z hz)
theorem ZoH {l:List (Int×Int)}{id:Int}(h:∀e∈l,e.2≠id):¬Zb6 l id≥0:=by rw[ZqL h];decide
theorem Zm5 {l:List (Int×Int)}{id:Int}{e:Int×Int}(he:e∈l)(h:e.2=id):Zb6 l id≥0:=by
 rcases findI_cases l id with⟨_,hn⟩|⟨i,_,hi,_⟩
 ·exact absurd h (hn e he)
 ·omega
theorem Zqh {room:Int}{l:List (Int×Int)}{p id:Int}(hp:0≤p∧p≤1099511627776)(hid:0≤id)(hn:∀e∈l,e.2≠id)(hr:(l.length:Int)<room):ZjB room l p id=(0,Zd6 (p,id) l):=by
 have h1:ZbG p=true:=by simp only[ZbG,Bool.and_eq_true,decide_eq_true_eq];omega
 rw[ZjB,if_neg (by rw[h1];simp;omega),if_neg (ZoH hn),if_neg (by omega)]
theorem ZjX {l :List (Int×Int)} {id:Int} {e:Int×Int} (hs:SrtE l) (he:e∈l) (h:e.2=id) (hu:∀e'∈l,e'.2=id→e'=e):∃l',Zb7 l id=(0,l')∧SrtE l'∧l'.length+1=l.length∧∀x,x∈l'↔x∈l∧x.2≠id:=by
  rcases findI_cases l id with⟨_,hn⟩|⟨i,e',hi,hie,hid,_⟩
  · exact absurd h (hn e he)
  · have hil:=(gSs hie).1
    obtain rfl:=hu e' (gMm hie) hid;refine⟨l.eraseIdx i,?_,hs.sublist (List.eraseIdx_sublist _ _),by rw[List.length_eraseIdx_of_lt hil];omega,fun x=>?_⟩
    · rw[Zb7,if_neg (by omega),hi,Int.toNat_natCast,List.eraseIdx_eq_take_drop_succ]
    · rw[List.mem_eraseIdx_iff_getElem?]
      constructor
      · rintro⟨v,hv,hx⟩
        refine⟨gMm hx,fun hxi=>?_⟩;have hxe:=hu x (gMm hx) hxi;subst hxe;rcases Nat.lt_trichotomy v i with c|c|c
        · exact absurd (hs.at hx hie c) (eLt_irrefl _)
        · exact hv c
        · exact absurd (hs.at hie hx c) (eLt_irrefl _)
      · rintro⟨hx,hxi⟩
        obtain⟨v,hv⟩:=List.mem_iff_getElem?.1 hx;refine⟨v,fun c=>?_,hv⟩;subst c;rw[hie]at hv;cases hv;exact hxi hid
theorem rekeyE_is {l:List (Int×Int)}{id p:Int}{e:Int×Int}(hs:SrtE l)(he:e∈l)(h:e.2=id)(hu:∀e'∈l,e'.2=id→e'=e)(hp:0≤p∧p≤1099511627776):
  ∃l',Zck l id p=(0,l')∧SrtE l'∧l'.length=l.length∧∀x,x∈l'↔x=(p,id)∨(x∈l∧x.2≠id):=by
 obtain⟨l',h1,h2,h3,h4⟩:=ZjX hs he h hu;have h0:¬Zb6 l id<0:=by have:=Zm5 he h;omega
 rw[Zb7,if_neg h0,Prod.mk.injEq]at h1;have hpb:ZbG p=true:=by simp only[ZbG,Bool.and_eq_true,decide_eq_true_eq];omega
 refine⟨Zd6 (p,id) l',by rw[Zck,if_neg (by simp[hpb]),if_neg h0,h1.2],h2.ins fun x hx hxe=>?_,by rw[ZjQ];exact h3,fun x=>by rw[mem_insE,h4]⟩;subst hxe;exact((h4 _).1 hx).2 rfl
def KD (N:List Nr)(g p k:Int):Prop:=∃y∈N,y.par=g∧y.rdy=true∧y.pass=p∧y.id=k
theorem Zo0 {N:List Nr}(hn:(N.map (·.id)).Nodup){x:Nr}(hx:x∈N){f:Nr→Nr}(hf:Skel f){g p j:Int}:KD (upN N x.id f) g p j↔(j≠x.id∧KD N g p j)∨(j=x.id∧x.par=g∧(f x).rdy=true∧(f x).pass=p):=by
 constructor
 ·rintro⟨y,hy,h1,h2,h3,h4⟩
  obtain⟨z,hz,⟨e1,rfl⟩|⟨e1,rfl⟩⟩:=Za0.1 hy
  ·have:=nd_eq hn hz hx e1;subst this
   rw[hf.id]at h4;rw[hf.par]at h1;exact .inr ⟨h4.symm,h1,h2,h3⟩
  ·exact .inl ⟨fun h=>e1 (by rw[h4,h]),y,hz,h1,h2,h3,h4⟩
 ·rintro(⟨h1,y,hy,h2,h3,h4,h5⟩|⟨h1,h2,h3,h4⟩)
  ·exact⟨y,Za0.2 ⟨y,hy,.inr ⟨fun h=>h1 (by rw[←h5,h]),rfl⟩⟩,h2,h3,h4,h5⟩
  ·exact⟨f x,Za0.2 ⟨x,hx,.inl ⟨rfl,rfl⟩⟩,by rw[hf.par,h2],h3,h4,by rw[hf.id,h1]⟩
theorem ZhY {N:List Nr}(hn:(N.map (·.id)).Nodup){x:Nr}(hx:x∈N){g p:Int}:KD N g p x.id↔x.par=g∧x.rdy=true∧x.pass=p:=by
 constructor
 ·rintro⟨y,hy,h1,h2,h3,h4⟩
  have:=nd_eq hn hy hx h4;subst this;exact⟨h1,h2,h3⟩
 ·rintro⟨h1,h2,h3⟩
  exact⟨x,hx,h1,h2,h3,rfl⟩
theorem Zjj {N:List Nr}(hn:(N.map (·.id)).Nodup){x:Nr}(hx:x∈N){f:Nr→Nr}(hf:Skel f){g p j:Int}(h:x.par≠g∨((f x).rdy=x.rdy∧((f x).pass=x.pass∨x.rdy=false))):KD (upN N x.id f) g p j↔KD N g p j:=by
 rw[Zo0 hn hx hf];by_cases c:j=x.id
 ·subst c
  rw[ZhY hn hx];rcases h with h|⟨h1,h2⟩
  ·simp[h]
  ·rw[h1]
   rcases h2 with h2|h2
   ·rw[h2];simp
   ·simp[h2]
 ·simp[c]
theorem Zsq {N:List Nr}(hn:(N.map (·.id)).Nodup){g p p' k:Int}(h:KD N g p k)(h':KD N g p' k):p=p':=by
 obtain⟨y,hy,_,_,h3,h4⟩:=h;rw[←h4,ZhY hn hy]at h';rw[←h3,h'.2.2]
theorem ZmS {N:List Nr}{g:Int}:Zcy N g≠ []↔∃p k,KD N g p k:=by
 constructor
 ·intro hne
  obtain⟨y,hy⟩:=List.exists_mem_of_ne_nil _ hne;simp only[Zcy,List.mem_filter,Bool.and_eq_true,beq_iff_eq]at hy;exact⟨y.pass,y.id,y,hy.1,hy.2.1,hy.2.2,rfl,rfl⟩
 ·rintro⟨p,k,y,hy,h1,h2,_⟩
  exact List.ne_nil_of_mem (a:=y) (by simp only[Zcy,List.mem_filter,Bool.and_eq_true,beq_iff_eq];exact⟨hy,h1,h2⟩)
def SameT (T T':List Nd):Prop:=T'.map (fun x=>(x.n.id,x.b,x.ib))=T.map (fun x=>(x.n.id,x.b,x.ib))
theorem SameT.refl (T:List Nd):SameT T T:=Eq.refl _
theorem SameT.trans {A B C:List Nd}(h:SameT A B)(g:SameT B C):SameT A C:=Eq.trans g h
theorem SameT.kp {T T':List Nd}(h:SameT T T'):T'.map kp=T.map kp:=by
 have:=congrArg (List.map (fun(z:Int×Nat×Nat)=>((z.1,Value.pointer (some ⟨z.2.1,0,none⟩)):Int×Value))) h;rw[List.map_map,List.map_map]at this;exact this
theorem SameT.at {T T':List Nd}(h:SameT T T'){i:Nat}{x:Nd}(hi:T[i]? =some x):∃x',T'[i]? =some x'∧x'.n.id=x.n.id∧x'.b=x.b∧x'.ib=x.ib:=by
 have:=congrArg (fun l=>l[i]?) h;simp only[List.getElem?_map,hi,Option.map_some]at this;obtain⟨x',h1,h2⟩:=Option.map_eq_some_iff.1 this;simp only[Prod.mk.injEq]at h2;exact⟨x',h1,h2.1,h2.2.1,h2.2.2⟩
theorem SameT.set {T:List Nd}{i:Nat}{x x':Nd}(hi:T[i]? =some x)(h:x'.n.id=x.n.id∧x'.b=x.b∧x'.ib=x.ib):SameT T (T.set i x'):=by
 unfold SameT;apply List.ext_getElem?;intro j;simp only[List.getElem?_map,List.getElem?_set];split
 ·rename_i e;subst e
  obtain⟨hil,rfl⟩:=gSs hi;simp[hil,h.1,h.2.1,h.2.2]
 ·rfl
theorem OkT.mem_n {N:List Nr}{T:List Nd}(h:OkT N T){x:Nd}(hx:x∈T):x.n∈N:=h.n▸List.mem_map.2 ⟨x,hx,rfl⟩
theorem OkT.of_n {N:List Nr}{T:List Nd}(h:OkT N T){y:Nr}(hy:y∈N):∃(i:Nat) (x:Nd),T[i]? =some x∧x.n=y:=by
 rw[←h.n]at hy;obtain⟨x,hx,rfl⟩:=List.mem_map.1 hy;obtain⟨i,hi⟩:=List.mem_iff_getElem?.1 hx;exact⟨i,x,hi,rfl⟩
theorem OkT.len {N:List Nr}{T:List Nd}(h:OkT N T):T.length=N.length:=by rw[←h.n,List.length_map]
theorem OkT.ix {N:List Nr}{T:List Nd}(h:OkT N T)(hn:(N.map (·.id)).Nodup){i j:Nat}{x y:Nd}(hi:T[i]? =some x)(hj:T[j]? =some y)(he:x.n.id=y.n.id):i=j:=by
 have hN:N.map (·.id)=T.map (fun x:Nd=>x.n.id):=by rw[←h.n];simp[List.map_map,Function.comp_def]
 rw[hN]at hn;obtain⟨hil,rfl⟩:=gSs hi;obtain⟨hjl,rfl⟩:=gSs hj;exact(List.getElem_inj (h₀:=by simpa using hil) (h₁:=by simpa using hjl) hn).1 (by simpa using he)
theorem OkT.at {N:List Nr}{T:List Nd}(h:OkT N T)(hn:(N.map (·.id)).Nodup){i:Nat}{x:Nd}(hi:T[i]? =some x):gt N x.n.id=some x.n:=ZbY hn (h.mem_n (gMm hi))
theorem OkT.get {N:List Nr}{T:List Nd}(h:OkT N T){k:Int}{y:Nr}(hg:gt N k=some y):∃(i:Nat) (x:Nd),T[i]? =some x∧x.n=y∧x.n.id=k:=by
 obtain⟨h1,h2⟩:=ZaL hg;obtain⟨i,x,hi,hx⟩:=h.of_n h1;exact⟨i,x,hi,hx,by rw[hx,h2]⟩
theorem Zpl (T:List Nd)(k:Int):lkE (T.map kp) k=(T.find? (fun x:Nd=>x.n.id==k)).map (fun x=> .pointer (some ⟨x.b,0,none⟩)):=by
  induction T with
  |nil=>rfl
  | cons a T ih=>
    simp only[List.map_cons,lkE,kp,List.find?_cons];cases a.n.id==k with
    |true=>rfl
    |false=>simpa using ih
theorem Zbz {N:List Nr}{T:List Nd}(h:OkT N T)(hn:(N.map (·.id)).Nodup){i:Nat}{x:Nd}{k:Int}(hi:T[i]? =some x)(hk:x.n.id=k):lkE (T.map kp) k=some (.pointer (some ⟨x.b,0,none⟩)):=by
  rw[Zpl];cases hf:T.find? (fun x:Nd=>x.n.id==k)with
  |none=>simp only[List.find?_eq_none,beq_iff_eq]at hf;exact absurd hk (hf x (gMm hi))
  | some y=>
    have hy:=List.mem_of_find?_eq_some hf;obtain⟨j,hj⟩:=List.mem_iff_getElem?.1 hy;have hyk:y.n.id=k:=by simpa using List.find?_some hf
    have:=h.ix hn hi hj (by rw[hk,hyk]);subst this;rw[hi]at hj;cases hj;rfl
theorem lk_none {N:List Nr}{T:List Nd}(h:OkT N T){k:Int}(hg:gt N k=none):lkE (T.map kp) k=none:=by
 rw[Zpl];cases hf:T.find? (fun x:Nd=>x.n.id==k)with
 |none=>rfl
 |some y=>exact absurd (by simpa using List.find?_some hf) (ZaX.1 hg _ (h.mem_n (List.mem_of_find?_eq_some hf)))
theorem ZlU {N :List Nr} {T:List Nd} (h:T.map (·.n)=N) (hn:(N.map (·.id)).Nodup) {i:Nat} {x:Nd} (hi:T[i]? =some x) (f:Nr→Nr) (x':Nd) (hx':x'.n=f x.n):(T.set i x').map (·.n)=upN N x.n.id f:=by
  subst h;apply List.ext_getElem?;intro j;obtain⟨hil,hxi⟩:=gSs hi;simp only[upN,List.getElem?_map,List.getElem?_set];by_cases c:i=j
  · subst c
    simp[hil,hxi,hx']
  · rw [if_neg c]
    cases hj:T[j]? with
    |none=>simp
    | some y=>
      have:y.n.id≠x.n.id:=by
        intro e;obtain⟨hjl,hyj⟩:=gSs hj;refine c ((List.getElem_inj (h₀:=by simpa using hil) (h₁:=by simpa using hjl) hn).1 ?_);simp[hxi,hyj,e]
      simp[this]
theorem OkT.one {N:List Nr}{T:List Nd}(h:OkT N T)(hn:(N.map (·.id)).Nodup){i:Nat}{x:Nd}(hi:T[i]? =some x){f:Nr→Nr}(hf:Skel f)(hs:(∀y∈N,y.id≠x.n.par)∨((f x.n).rdy=x.n.rdy∧((f x.n).pass=x.n.pass∨x.n.rdy=false))):
  OkT (upN N x.n.id f) (T.set i {x with n:=f x.n}):=by
 have key:∀z∈T,∀p k,(p,k)∈z.q↔KD (upN N x.n.id f) z.n.id p k:=by
  intro z hz p k;rw[Zjj hn (h.mem_n (gMm hi)) hf]
  ·exact h.mem z hz p k
  ·rcases hs with hs|hs
   ·exact .inl fun e=>hs z.n (h.mem_n hz) e.symm
   ·exact .inr hs
 refine⟨ZlU h.n hn hi f _ rfl,fun z hz=>?_,fun z hz p k=>?_⟩
 ·rcases List.mem_or_eq_of_mem_set hz with hz|rfl
  ·exact h.srt z hz
  ·exact h.srt x (gMm hi)
 ·rcases List.mem_or_eq_of_mem_set hz with hz|rfl
  ·exact key z hz p k
  ·have:=key x (gMm hi) p k
   show(p,k)∈x.q↔KD (upN N x.n.id f) (f x.n).id p k;rw[hf.id];exact this
theorem OkT.two {N :List Nr} {T:List Nd} (h:OkT N T) (hn:(N.map (·.id)).Nodup) {i j:Nat} {x p:Nd} (hi:T[i]? =some x) (hj:T[j]? =some p) (hp:p.n.id=x.n.par) (hij:i≠j) {f:Nr→Nr} (hf:Skel f) {q:List (Int×Int)} (hq:SrtE q)
    (hm:∀s k,(s,k)∈q↔KD (upN N x.n.id f) p.n.id s k):OkT (upN N x.n.id f) ((T.set i {x with n:=f x.n}).set j {p with q:=q}):=by
  have hx:=h.mem_n (gMm hi);have hj':(T.set i {x with n:=f x.n})[j]? =some p:=by rw[List.getElem?_set,if_neg hij];exact hj
  have hset:((T.set i {x with n:=f x.n}).set j {p with q:=q}).map (·.n)=(T.set i {x with n:=f x.n}).map (·.n):=by
    apply List.ext_getElem?;intro l;simp only[List.getElem?_map,List.getElem?_set (i:=j)];by_cases c:j=l
    · subst c
      rw[hj',if_pos rfl,if_pos (gSs hj').1];rfl
    · rw[if_neg c]
  refine⟨hset.trans (ZlU h.n hn hi f _ rfl),?_,?_⟩
  · intro z hz
    rcases List.mem_or_eq_of_mem_set hz with hz|rfl
    · rcases List.mem_or_eq_of_mem_set hz with hz|rfl
      · exact h.srt z hz
      · exact h.srt x (gMm hi)
    · exact hq
  · intro z hz s k
    obtain⟨l,hl⟩:=List.mem_iff_getElem?.1 hz;rw[List.getElem?_set]at hl;by_cases c:j=l
    · subst c
      rw[if_pos rfl]at hl;split at hl
      · cases hl;exact hm s k
      · cases hl
    · rw [if_neg c,List.getElem?_set]at hl
      by_cases c2:i=l
      · subst c2
        rw[if_pos rfl]at hl;split at hl
        · cases hl
          have hne:x.n.par≠x.n.id:=fun e=>hij (h.ix hn hi hj (by rw[hp,e]))
          rw[show({x with n:=f x.n}:Nd).n.id=x.n.id from hf.id _];show(s,k)∈x.q↔KD (upN N x.n.id f) x.n.id s k;rw[Zjj hn hx hf (.inl hne)];exact h.mem x (gMm hi) s k
        · cases hl
      · rw[if_neg c2]at hl
        have hne:x.n.par≠z.n.id:=fun e=>c (h.ix hn hj hl (by rw[hp,e]))
        show(s,k)∈z.q↔KD (upN N x.n.id f) z.n.id s k;rw[Zjj hn hx hf (.inl hne)];exact h.mem z (gMm hl) s k
namespace G
theorem bltY {P:Program}{n:Nat}{L:List (Nat×Value)}{c:Code}{S:World→Prop}{i:Nat}(b:Builtin)(x y:Operand)(ats:Array TypeId)(vx vy v:Value)(d:Option Tmp)(hg:∀rest,Zcc n c i L rest=true)(hd:(Za5 c i).dst=d)
  (hop:(Za5 c i).op= .call {callee:= .builtin b,args:= #[x,y],argTypes:=ats}) (hx:∀rest,ZaD L rest x=vx) (hy:∀rest,ZaD L rest y=vy)
  (hr:∀w ty cs,(builtin b ats ty cs #[vx,vy]).run P w= .ok (.value v) w):Yld P n L S c i d v:=by
 refine⟨hg,hd,fun rest w _ hs=>?_⟩;unfold execOp;simp only[hop,resolve,invoke,Sem.run_bind,Sem.run_pure,Result.andThen_ok,List.map_toArray,List.map_cons,List.map_nil,hx rest,hy rest,hr]
theorem Zs8 {P:Program}{n:Nat}{L:List (Nat×Value)}{c:Code}{S:World→Prop}{i:Nat}(t:TypeId)(x ix:Operand)(b o len J sz:Nat)(E:TypeId)(j:Int)(k:IntKind)(d:Option Tmp)(hg:∀rest,Zcc n c i L rest=true)(hd:(Za5 c i).dst=d)(hop:(Za5 c i).op= .indexAddr t x ix)
  (hx:∀rest,ZaD L rest x= .pointer (some ⟨b,o,none⟩)) (hix:∀rest,ZaD L rest ix= .int k j) (hu:P.underlying t=some (.array len E)) (hsz:(P.info? E).map (·.size)=some sz) (hj:j=(J:Int)) (hJ:J<len):Yld P n L S c i d (.pointer (some ⟨b,o+J*sz,none⟩)):=by
 refine⟨hg,hd,fun rest w _ hs=>?_⟩;have hi:∃q,P.info? E=some q∧q.size=sz:=by
  cases hq:P.info? E with
  |none=>rw[hq]at hsz;cases hsz
  |some q=>rw[hq]at hsz;exact⟨q,rfl,by simpa using hsz⟩
 obtain⟨q,hq,hqs⟩:=hi;subst hj;unfold execOp;simp only[hop,hx rest,hix rest];simp[Instr.indexAt,Instr.sureAddr,asIntOf,run_underlying hu,sizeOf,typeInfo,hq,hqs,hJ,Addr.add_lit]
def Zpz (P :Program) (n:Nat) (c:Code) (i:Nat) (L:List (Nat×Value)) (rest:Nat→Value):Option (Value×Option Tmp):=
  match Zcc n c i L rest with
  | true=>(match Zbp P (execOp (ZaD L rest) (Za5 c i)) [] with
    |some (.value v,[],_)=>some (v,(Za5 c i).dst)
    |_=>none)
  |false=>none
theorem Zsh {P : Program} {n:Nat} {L:List (Nat×Value)} {H:List SP} {c:Code} {i:Nat} (v:Value) (d:Option Tmp) (h:∀rest,Zpz P n c i L rest=some (v,d)):Step (ι:=Unit) P n L H c i d (fun _=>v) (fun _=>H):=by
  have key:∀rest,Zcc n c i L rest=true∧(Za5 c i).dst=d∧∃r,Zbp P (execOp (ZaD L rest) (Za5 c i)) []=some (.value v,[],r):=by
    intro rest;have h0:=h rest;unfold Zpz at h0;cases hg:Zcc n c i L rest with
    |false=>rw[hg]at h0;cases h0
    | true=>
      rw[hg]at h0;simp only at h0;cases hr:Zbp P (execOp (ZaD L rest) (Za5 c i)) [] with
      |none=>rw[hr]at h0;cases h0
      | some z=>
        obtain⟨x,cs,r⟩:=z;rw[hr]at h0;cases x with
        | value u=>
          cases cs with
          |cons _ _=>cases h0
          | nil=>
            simp only[Option.some.injEq,Prod.mk.injEq]at h0;obtain⟨rfl,rfl⟩:=h0;exact⟨rfl,rfl,r,rfl⟩
        |_=>cases h0
  refine valueS d _ _ (fun rest=>(key rest).1) (key fun _=>undef).2.1 ?_;intro rest w _ hs;obtain⟨r,hr⟩:=(key rest).2.2;exact⟨(),w,(Zbw (w:=w) _ hr (fun p hp=>by simp at hp) (fun p hp=>by simp at hp)).1,hs⟩
end G
theorem Zqr {P:Program}{a b:Int}{ats:Array TypeId}(ha:a.natAbs<2^53)(hb:b.natAbs<2^53)(w:World)(ty:TypeId)(cs:Array Bool):
  (builtin .max ats ty cs #[.float .f64 (floatOfInt .f64 a),.float .f64 (floatOfInt .f64 b)]).run P w= .ok (.value (.float .f64 (floatOfInt .f64 (mxI a b)))) w:=by
 have ho:FloatKind.f64.format.order (floatOfInt .f64 a) (floatOfInt .f64 b)=some (compare a b):=ZoI a b ha hb;have h2:(Builtin.max2 (.float .f64 (floatOfInt .f64 a)) (.float .f64 (floatOfInt .f64 b))).run P w= .ok (.float .f64 (floatOfInt .f64 (mxI a b))) w:=by
  unfold Builtin.max2;simp only[ho];unfold mxI;rcases Int.lt_trichotomy a b with h|h|h
  ·rw[Int.compare_eq_lt.2 h]
   simp[h]
  ·subst h
   rw[Int.compare_eq_eq.2 rfl];simp
  ·rw[Int.compare_eq_gt.2 h]
   simp[Int.lt_asymm h]
 simp[builtin,Builtin.max_,Sem.run_bind,h2]
theorem Sat.blkRows {α:Type}{E:Enc α}{T:TypeId}{H:List SP}{w:World}{b:Nat}{xs:List α}(hl:xs.length≤maxLen)(h:Sat w (blk b T (E.flat xs)::H)):Sat w (row E T (.slice (some ⟨b,0,none⟩) xs.length xs.length) xs::H):=
 Sat.change h fun G hG=>by
  refine⟨Upd.refl _ w,ZbN b,.inr ⟨b,0,xs.length,_,rfl,rfl,hG.1,Nat.le_refl _,hl,by simp[E.flat_length],?_⟩,fun x hx=> .inl ((hG.2 x).2 hx)⟩;simp only[List.drop_zero];rw[←E.flat_length xs];exact List.take_length
theorem PT.blkRows {α:Type}{E:Enc α}{T:TypeId}{H:List SP}{n:Nat}{L:List (Nat×Value)}{Φ:Act→World→Prop}{b:Nat}{cs:List Value}(xs:List α)(hl:xs.length≤maxLen)(hc:cs=E.flat xs)(h:PT n L (row E T (.slice (some ⟨b,0,none⟩) xs.length xs.length) xs::H) Φ):PT n L (blk b T cs::H) Φ:=
 PT.sat (fun w hs=>Sat.blkRows hl (hc▸hs)) h
theorem Sat.nds {A B:SP}{T T':List Nd}{H:List SP}(h:T.Perm T'){w:World}(hs:Sat w (A::B::(Zai T++H))):Sat w (A::B::(Zai T'++H)):=Sat.perm ((((ZdG h).append_right H).cons B).cons A) hs
theorem PT.open1 {n:Nat}{L:List (Nat×Value)}{A B:SP}{T R:List Nd}{H:List SP}{x:Nd}{Φ:Act→World→Prop}(h:T.Perm (x::R))
  (hn:PT n L (A::B::blk x.b 213 (ndc x)::Zco x.ib 60 x.q::(Zai R++H)) Φ):PT n L (A::B::(Zai T++H)) Φ:=PT.sat (fun _ hs=>Sat.nds h hs) hn
theorem PT.open2 {n:Nat}{L:List (Nat×Value)}{A B:SP}{T R:List Nd}{H:List SP}{x p:Nd}{Φ:Act→World→Prop}(h:T.Perm (x::p::R))
  (hn:PT n L (A::B::blk x.b 213 (ndc x)::Zco x.ib 60 x.q::blk p.b 213 (ndc p)::Zco p.ib 60 p.q::(Zai R++H)) Φ):PT n L (A::B::(Zai T++H)) Φ:=PT.sat (fun _ hs=>Sat.nds h hs) hn
theorem PT.close1 {n:Nat}{L:List (Nat×Value)}{A B:SP}{T R:List Nd}{H:List SP}(x:Nd){Φ:Act→World→Prop}(h:T.Perm (x::R))
  (hn:PT n L (A::B::(Zai T++H)) Φ):PT n L (A::B::blk x.b 213 (ndc x)::Zco x.ib 60 x.q::(Zai R++H)) Φ:=PT.sat (fun _ hs=>Sat.nds (T:=x::R) h.symm hs) hn
theorem PT.close2 {n:Nat}{L:List (Nat×Value)}{A B:SP}{T R:List Nd}{H:List SP}(x p:Nd){Φ:Act→World→Prop}(h:T.Perm (x::p::R))
  (hn:PT n L (A::B::(Zai T++H)) Φ):PT n L (A::B::blk x.b 213 (ndc x)::Zco x.ib 60 x.q::blk p.b 213 (ndc p)::Zco p.ib 60 p.q::(Zai R++H)) Φ:=PT.sat (fun _ hs=>Sat.nds (T:=x::p::R) h.symm hs) hn
theorem Sat.nds3 {A B C:SP}{T T':List Nd}{H:List SP}(h:T.Perm T'){w:World}(hs:Sat w (A::B::C::(Zai T++H))):Sat w (A::B::C::(Zai T'++H)):=Sat.perm (((((ZdG h).append_right H).cons C).cons B).cons A) hs
theorem PT.open1c {n:Nat}{L:List (Nat×Value)}{A B C:SP}{T R:List Nd}{H:List SP}{x:Nd}{Φ:Act→World→Prop}(h:T.Perm (x::R))
  (hn:PT n L (A::B::C::blk x.b 213 (ndc x)::Zco x.ib 60 x.q::(Zai R++H)) Φ):PT n L (A::B::C::(Zai T++H)) Φ:=PT.sat (fun _ hs=>Sat.nds3 h hs) hn
theorem PT.close1c {n:Nat}{L:List (Nat×Value)}{A B C:SP}{T R:List Nd}{H:List SP}(x:Nd){Φ:Act→World→Prop}(h:T.Perm (x::R))
  (hn:PT n L (A::B::C::(Zai T++H)) Φ):PT n L (A::B::C::blk x.b 213 (ndc x)::Zco x.ib 60 x.q::(Zai R++H)) Φ:=PT.sat (fun _ hs=>Sat.nds3 (T:=x::R) h.symm hs) hn
theorem Sat.nds4 {A B C D:SP}{T T':List Nd}{H:List SP}(h:T.Perm T'){w:World}(hs:Sat w (A::B::C::D::(Zai T++H))):Sat w (A::B::C::D::(Zai T'++H)):=Sat.perm ((((((ZdG h).append_right H).cons D).cons C).cons B).cons A) hs
theorem PT.open1d {n:Nat}{L:List (Nat×Value)}{A B C D:SP}{T R:List Nd}{H:List SP}{x:Nd}{Φ:Act→World→Prop}(h:T.Perm (x::R))
  (hn:PT n L (A::B::C::D::blk x.b 213 (ndc x)::Zco x.ib 60 x.q::(Zai R++H)) Φ):PT n L (A::B::C::D::(Zai T++H)) Φ:=PT.sat (fun _ hs=>Sat.nds4 h hs) hn
theorem PT.close1d {n:Nat}{L:List (Nat×Value)}{A B C D:SP}{T R:List Nd}{H:List SP}(x:Nd){Φ:Act→World→Prop}(h:T.Perm (x::R))
  (hn:PT n L (A::B::C::D::(Zai T++H)) Φ):PT n L (A::B::C::D::blk x.b 213 (ndc x)::Zco x.ib 60 x.q::(Zai R++H)) Φ:=PT.sat (fun _ hs=>Sat.nds4 (T:=x::R) h.symm hs) hn
end Go.Proofs.YtfhkgohokbkgiaaGreatDoor
namespace Go.Proofs.YtfhkgohokbkgiaaGreatDoor.G
theorem Xj {P:Program}{n:Nat}{L:List (Nat×Value)}{c:Code}{S:World→Prop}{i:Nat}(t:TypeId)(x ix:Operand)(b o len J sz:Nat)(E:TypeId)(j:Int)(d:Nat)(hu:P.underlying t=some (.array len E))(hJ:J<len:=by first|omega|decide|(simp;done)|(simp;omega)|(simp at*;omega))(hg:∀rest,Zcc n c i L rest=true:=by intro _;kernel_rfl)(hd:(Za5 c i).dst=some d:=by kernel_rfl)(hop:(Za5 c i).op= .indexAddr t x ix:=by kernel_rfl)
  (hx:∀rest,ZaD L rest x= .pointer (some ⟨b,o,none⟩):=by intro _;kernel_rfl) (hix:∀rest,ZaD L rest ix= .int .i64 j:=by intro _;kernel_rfl) (hsz:(P.info? E).map (·.size)=some sz:=by kernel_rfl) (hj:j=(J:Int):=by first|rfl|assumption|simp|omega):Yld P n L S c i (some d) (.pointer (some ⟨b,o+J*sz,none⟩)):=Zs8 t x ix b o len J sz E j .i64 (some d) hg hd hop hx hix hu hsz hj hJ
end Go.Proofs.YtfhkgohokbkgiaaGreatDoor.G
namespace Go.Proofs.YtfhkgohokbkgiaaGreatDoor
open Go.RowKit G Tryz
theorem Zbx (H:List SP)(w_:Int):US 171 #[vi w_] H (.bool (isW w_)):=by
 refine eG func171 9 ?_;refine Xq<|Xg 1<|Be<|Xq (Xg 7 (Cr 4 3 [(0,vi w_),(2,.bool false),(5,.bool (decide (w_≥1)))] ?_));refine(Xs0 1 3 [(2,.bool false),(8,.bool ((decide (w_≥1))&& (decide (w_≤16))))] ?_ ?_:RT _ _ _ _ _ _ 4 _)
 ·cases hg3:(decide (w_≥1))with
  |true=>
   refine Ae 3 ?_;exact mA ()
  |false=>
   refine Ae 3 ?_;exact mA ()
 exact Be<|Xv (Y0 (.bool ((decide (w_≥1))&& (decide (w_≤16)))) fun w hs=>⟨(),rfl,hs⟩)
theorem Zdk (H:List SP)(w_:Int):US 150 #[vi w_] H (vi (ZaH w_)):=by
 refine eG func150 8 ?_;refine Xq<|Xg 1<|Be<|Xq<|Xq<|Xg 3<|Br 2 1<|Bs 1 (Xa (some 4) _ (Zbx _ w_))<|Be<|Xc (!(isW w_)) (fun h1=>?_) (fun h1=>?_)
 ·exact Xq<|Xg 1<|Be<|Xv (Zab (Y0 (vi 0) fun w hs=>⟨(),by rw[ZaH,if_neg (by simpa using h1)],hs⟩))
 ·refine Xk (Xq (Xg 3 (Br 2 1 ?_)));have hw:isW w_=true:=by simpa using h1
  exact Bs 1 (Zav (ZoQ .quo 3 3 (.const (.int .i64 720720)) (.tmp 6) (.int .i64 720720) (.int .i64 w_) (.int .i64 (IntKind.i64.wrap ((720720:Int).tdiv w_))) (some 7) (fun _=>Kr) Kr Kr (fun _=>Kr) (fun _=>Kr) (Zst (t':=0) (by have:=Zdi hw;omega))))<|Be<|Xv (Y0 (vi (IntKind.i64.wrap ((720720:Int).tdiv w_))) fun w hs=>⟨(),by rw[show IntKind.i64.wrap ((720720:Int).tdiv w_)=ZaH w_ from ?_];rw[ZaH,if_pos hw];have h2:=ZaV hw;rw[ZaH,if_pos hw]at h2;exact w64 (by omega) (by omega),hs⟩)
theorem ZgP (H:List SP)(p w_:Int)(hp:0≤p∧p≤1099511627776)(hw:isW w_=true):US 105 #[vi p,vi w_] H (vi (p+ZaH w_)):=by
 refine eG func105 9 ?_;refine Xq<|Xg 1<|Be<|Xq<|Xg 5<|Br 3 2<|Bs 2 (Xa (some 7) _ (Zdk _ w_))<|Be<|Xv ?_;have h2:=ZaV hw;refine Y0 (vi (IntKind.i64.wrap (p+(ZaH w_)))) (fun w hs=>?_);exact⟨(),by rw[w64 (by omega) (by omega)],hs⟩
theorem Zhf (H:List SP)(a b:Int):US 142 #[vi a,vi b] H (.complex .f64 (floatOfInt .f64 a) (floatOfInt .f64 b)):=by
 refine eG func142 10 ?_;exact Xq<|Xg 1<|Be<|Xq<|Xg 6<|Be<|Xv (Y0 (.complex .f64 (floatOfInt .f64 a) (floatOfInt .f64 b)) fun w hs=>⟨(),rfl,hs⟩)
theorem ZfT (H:List SP)(a b:Int)(ha:a.natAbs<2^53)(hb:b.natAbs<2^53):US 141 #[.complex .f64 (floatOfInt .f64 a) (floatOfInt .f64 b)] H (vi (mxI a b)):=by
 refine eG func141 9 ?_;exact Xq<|Xg 1<|Be<|Xq<|Xg 7<|Br 3 4<|Bs 2 (Zav (bltY .max (.tmp 4) (.tmp 6) #[241,241] (.float .f64 (floatOfInt .f64 a)) (.float .f64 (floatOfInt .f64 b)) (.float .f64 (floatOfInt .f64 (mxI a b))) (some 7) (fun _=>Kr) Kr Kr (fun _=>Kr) (fun _=>Kr) (Zqr (by omega) (by omega))))<|Bs 1 (Zav (Zsf 241 3 (.tmp 7) (.float .f64 (floatOfInt .f64 (mxI a b))) (.int .i64 (mxI a b)) (some 8) (fun _=>Kr) Kr Kr (fun _=>Kr) (Zfm (by unfold mxI;split<;>omega))))<|Be<|Xv (Y0 (vi (mxI a b)) fun w hs=>⟨(),rfl,hs⟩)
theorem Zkl (H:List SP)(p n f t:Int)(hp:0≤p∧p≤1099511627776)(hn:0≤n∧n≤1099511627776)(hf:isW f=true)(ht:isW t=true):US 210 #[vi p,vi n,vi f,vi t] H (vi (scaleN p n f t)):=by
 refine eG func210 29 ?_;refine Xq (Xg 1 (Ae 1 ?_));refine Xq (Xq (Xg 8 (Xr [(0,vi p),(1,vi n),(2,vi f),(3,vi t),(8,vi 0),(12,.bool (decide (p≤n)))] ?_ 4 4)));refine(Xs0 0 4 [(0,vi p),(1,vi n),(2,vi f),(3,vi t),(8,vi 0),(16,.bool ((decide (p≤n))||((ZaH f)==0)))] ?_ ?_:RT _ _ _ _ _ _ 4 _)
 ·cases hg4:(decide (p≤n))with
  |true=>
   refine Ae 4 ?_;exact mA ()
  |false=>
   refine Ar ?_ 3 1;refine Xs (Xa (some 14) _ (Zdk _ f)) (fun _=>?_) 2;refine Ae 2 ?_;exact mA ()
 refine endR ?_;refine Xc ((decide (p≤n))||((ZaH f)==0)) (fun h1=>?_) (fun h1=>?_)
 ·refine Xq (Xg 2 (Ae 2 ?_));refine Xv (Zab (Y0 (vi p) (fun w hs=>?_)));exact⟨(),by rw[scaleN,if_pos (by simpa using h1)],hs⟩
 ·refine Xk (Xq (Xg 12 (Ar ?_ 7 5)));refine Xs (Xa (some 23) _ (Zdk _ t)) (fun _=>?_) 6;refine Xr [(8,vi 0),(18,vi n),(24,vi (IntKind.i64.wrap ((IntKind.i64.wrap (p-n))*(ZaH t)))),(25,vi f)] ?_ 4 2;refine Xs (Xa (some 26) _ (Zdk _ f)) (fun _=>?_) 3;have h2:¬(p≤n∨ZaH f=0):=by simpa using h1
  have hsf:=ZaV hf;have hst:=ZaV ht;have hm:0≤(p-n)*ZaH t∧(p-n)*ZaH t≤1099511627776*720720:=⟨Int.mul_nonneg (by omega) (by omega),Int.le_trans (Int.mul_le_mul_of_nonneg_right (c:=ZaH t) (show p-n≤1099511627776 by omega) (by omega)) (Int.mul_le_mul_of_nonneg_left hst.2 (by omega))⟩
  have hd:=Zie hm.1 hsf.1;rw[show IntKind.i64.wrap (p-n)=(p-n)by rw[w64 (by omega) (by omega)]];rw[show IntKind.i64.wrap ((p-n)*(ZaH t))=((p-n)*ZaH t)by rw[w64 (by omega) (by omega)]];refine Xs (Zav (ZoQ .quo 3 3 (.tmp 24) (.tmp 26) (.int .i64 ((p-n)*ZaH t)) (.int .i64 (ZaH f)) (.int .i64 (IntKind.i64.wrap (((p-n)*ZaH t:Int).tdiv (ZaH f)))) (some 27) (fun _=>Kr) Kr Kr (fun _=>Kr) (fun _=>Kr) (Zst (t':=0) (by omega)))) (fun _=>?_) 2;refine Ae 2 ?_;refine Xv (Y0 (vi (IntKind.i64.wrap (n+(IntKind.i64.wrap (((p-n)*ZaH t:Int).tdiv (ZaH f)))))) (fun w hs=>?_));exact⟨(),by rw[scaleN,if_neg h2,w64 (n:=((p-n)*ZaH t).tdiv (ZaH f)) (by omega) (by omega),w64 (by omega) (by omega)],hs⟩
def rootN :Nr:=⟨0,-1,1,0,false,false,0⟩
def Zp7 (b ib:Nat):Nd:=⟨rootN,[],b,ib⟩
theorem ZlK (H:List SP):U1 77 #[] H (ι:=Nat×Nat×Nat×Nat) (fun x=>vp x.1) fun x=>blk x.1 210 [.map (some x.2.1)]::Zbl x.2.1 ([Zp7 x.2.2.1 x.2.2.2].map kp)::(Zai [Zp7 x.2.2.1 x.2.2.2]++H):=by
 refine eG func77 11 ?_;exact Xq<|Xg 1<|Be<|Xq<|Xg 5<|Br 4 1<|Bx 3 (Xa (some 3) _ (ZjC _ 60)) fun(ib:Nat)=>Br 2 1<|Bx 1 (Xn 213 [vi 0,vi (-1),vi 1,vi 0,.bool false,.bool false,vi 0,vp ib] (some 5) (fun b=>vp b)) fun b1=>Be<|Xq<|Xg 7<|Bx 6 (Zqq (some 6) (fun b=> .map (some b)) (fun _ _=>Kr)) fun b2=>Br 5 1<|Bs 4 (Ztb 207 (.tmp 6) (.const (.int .i64 0)) (.tmp 7) b2 0 [] (vp b1) 3 208 (fun _=>Kr) Kr (.inr Kr) (fun _=>Kr) (fun _=>Kr) (fun _=>Kr) underlying207 Kr (rfl))<|Br 2 2<|Bx 1 (Xn 210 [.map (some b2)] (some 10) (fun b=>vp b)) fun b3=>Be<|Xv (Y0 (vp b3) fun w hs=>⟨(b3,b2,b1,ib),rfl,hs⟩)
theorem ZjZ {N:List Nr}(h:SK N){rk:Int→Nat}(hr:∀x∈N,(x.id=0→rk x.id=1)∧(x.id≠0→rk x.id=rk x.par+1)∧rk x.id≤5∧(x.thr=false→rk x.id≤4)):
  ∀(f:Nat) (x:Nr),x∈N→rk x.id≤f→Za2 f N x.id=rk x.id
 |0,x,hx,hf=>by
  by_cases c:x.id=0
  ·have:=(hr x hx).1 c;omega
  ·have:=(hr x hx).2.1 c;omega
 | f+1,x,hx,hf=>by
  rw[Za2,ZbY h.nd hx];simp only;by_cases c:x.id=0
  ·rw[(hr x hx).1 c,(h.rt x hx c).1]
   have:gt N (-1)=none:=ZaX.2 fun y hy e=>by
    by_cases c2:y.id=0
    ·omega
    ·have:=(h.pa y hy c2).1;omega
   cases f with
   |zero=>rfl
   |succ f=>rw[Za2,this]
  ·obtain⟨_,p,hp,hpi,_⟩:=h.pa x hx c
   have h1:=(hr x hx).2.1 c;rw[←hpi,ZjZ h hr f p hp (by rw[hpi];omega),h1,hpi]
theorem SK.neg {N:List Nr}(h:SK N){k:Int}(hk:k<0):gt N k=none:=ZaX.2 fun y hy e=>by
 by_cases c2:y.id=0
 ·omega
 ·have:=(h.pa y hy c2).1;omega
theorem Znh {N:List Nr}{T:List Nd}(hT:OkT N T)(hsk:SK N)(H:List SP)(t mb:Nat)(k0:Int):US 199 #[vp t,vi k0] (blk t 210 [.map (some mb)]::Zbl mb (T.map kp)::(Zai T++H)) (vi (Za2 6 N k0:Int)):=by
 obtain⟨rk,hrk⟩:=hsk.rk;have hnd:=hsk.nd;refine eG func199 27 ?_;refine Xq (Xg 1 (Ce [(0,vp t),(1,vi k0),(4,vi 0)] ?_));refine ZcW 0 (fun(x:Int×Nat)=> [(0,vp t),(1,vi x.1),(5,vi (x.2:Int))]) (fun _=>(blk t 210 [.map (some mb)]::Zbl mb (T.map kp)::(Zai T++H))) (fun k (x:Int×Nat)=>k+x.2=6∧Za2 6 N k0=x.2+Za2 k N x.1∧∀y∈N,y.id=x.1→rk y.id+x.2≤5) Kr Kr Kr Kr ?_ ?_
 ·rintro k ⟨id,n⟩ ⟨hkn,hd,hb⟩ K hK;simp only at hkn hd hb;cases hg:gt N id with
  |none=>
   refine Xq<|Xg 11<|Bl 6 5 [(⟨t,0,none⟩,.map (some mb))] (hasC (ba 0) Zaa)<|Bs 5 (Zav (ZbW 207 (.tmp 12) (.tmp 13) true mb id (T.map kp) (.pointer none) (.tuple #[.pointer none,.bool false]) 3 208 (some 14) (fun _=>Kr) Kr Kr (fun _=>Kr) (fun _=>Kr) underlying207 Kr (fun _=>Kr) (ZbU (H:=(blk t 210 [.map (some mb)]::Zbl mb (T.map kp)::(Zai T++H))) (i:=1) rfl) (by rw[lk_none hT hg];rfl)))<|Be<|Xq<|Xq<|Xg 2<|Be<|cT<|Xq<|Xg 2<|Be<|Xv (Zab (ZcR ?_));have hz:Za2 k N id=0:=by cases k<;>simp[Za2,hg]
   refine Y0 (vi n) (fun w hs=>?_);exact⟨(),by rw[hd,hz];rfl,hs⟩
  |some y=>
   obtain⟨i,z,hi,hzn,hzk⟩:=hT.get hg;have hy:=ZaL hg;have hr1:=hrk y hy.1;have hb1:=hb y hy.1 hy.2;refine Xq<|Xg 11<|Bl 6 5 [(⟨t,0,none⟩,.map (some mb))] (hasC (ba 0) Zaa)<|Bs 5 (Zav (ZbW 207 (.tmp 12) (.tmp 13) true mb id (T.map kp) (.pointer none) (.tuple #[vp z.b,.bool true]) 3 208 (some 14) (fun _=>Kr) Kr Kr (fun _=>Kr) (fun _=>Kr) underlying207 Kr (fun _=>Kr) (ZbU (H:=(blk t 210 [.map (some mb)]::Zbl mb (T.map kp)::(Zai T++H))) (i:=1) rfl) (by rw[Zbz hT hnd hi hzk];rfl)))<|Be<|Xq<|Xq<|Xg 2<|Be<|cF<|Xk<|Xq<|Xg 3<|Be<|Xq (Xg 6 (Cm [(0,vp t),(1,vi z.n.par),(5,vi (IntKind.i64.wrap ((n:Int)+1)))] [(⟨z.b,1,none⟩,vi z.n.par)] (hasC (up (up (Zbe (T:=T) (gMm hi) (j:=1) rfl))) Zaa) ?_));refine Zep 0 Kr Kr ?_;obtain⟨k,rfl⟩:∃k',k=k'+1:=⟨k-1,by omega⟩
   have hd2:Za2 (k+1) N id=Za2 k N z.n.par+1:=by rw[Za2,hg,hzn]
   rw[show IntKind.i64.wrap ((n:Int)+1)=((n+1:Nat):Int)by rw[w64 (by omega) (by omega)];rfl];exact Xp _ (Zen (hK k (z.n.par,n+1) (by omega) ⟨by simp only;omega,by simp only;rw[hd,hd2];omega,fun p hp hpi=>by simp only at hpi ⊢;rw[hzn]at hpi;by_cases c:y.id=0;(have:=(hsk.rt y hy.1 c).1;have h3:gt N p.id=none:=hsk.neg (by omega);rw[ZbY hnd hp]at h3;cases h3);(have:=hr1.2.1 c;rw[hpi];omega)⟩))
 ·intro K hK;refine Xq<|Xg 1<|Be<|Xq ?_;refine ZcY Kr ?_;refine Xp [(0,vp t),(1,vi k0),(5,vi 0)] ?_;refine ZeC Kr (hK 6 (k0,0) ⟨rfl,by simp,fun y hy _=>by have:=(hrk y hy).2.2.1;simpa using this⟩)
def ndV (x:Nr):Value:= .agg #[.int .i64 x.id,.int .i64 x.par,.int .i64 x.wt,.int .i64 x.pass,.bool x.thr,.bool x.rdy]
def ZbE :Nr:=⟨0,0,0,0,false,false,0⟩
theorem Zmv {N:List Nr}{T:List Nd}(hT:OkT N T)(hnd:(N.map (·.id)).Nodup)(H:List SP)(t mb:Nat)(id:Int):US 58 #[vp t,vi id] (blk t 210 [.map (some mb)]::Zbl mb (T.map kp)::(Zai T++H)) (.tuple #[ndV ((gt N id).getD ZbE),.bool (gt N id).isSome]):=by
 refine eG func58 24 ?_;cases hg:gt N id with
 |none=>
  refine Xq<|Xg 2<|Bx 1 (Xn 147 [vi 0,vi 0,vi 0,vi 0,.bool false,.bool false] (some 4) (fun b=>vp b)) fun b1=>Be<|Xq<|Xg 11<|Bl 6 5 [(⟨t,0,none⟩,.map (some mb))] (hasC (ba 1) Zaa)<|Bs 5 (Zav (ZbW 207 (.tmp 12) (.tmp 13) true mb id (T.map kp) (.pointer none) (.tuple #[.pointer none,.bool false]) 3 208 (some 14) (fun _=>Kr) Kr Kr (fun _=>Kr) (fun _=>Kr) underlying207 Kr (fun _=>Kr) (ZbU (H:=(blk b1 147 [.int .i64 0,.int .i64 0,.int .i64 0,.int .i64 0,.bool false,.bool false]::blk t 210 [.map (some mb)]::Zbl mb (T.map kp)::(Zai T++H))) (i:=2) rfl) (by rw[lk_none hT hg];rfl)))<|Be<|Xq<|Xq<|Xg 2<|Be<|cT<|Xq<|Xg 3<|Br 2 1<|Bs 1 (Xz [(0,vi 0),(1,vi 0),(2,vi 0),(3,vi 0),(4,.bool false),(5,.bool false)])<|Be<|Xv<|Zab<|dB 0 (.tuple #[.agg #[.int .i64 0,.int .i64 0,.int .i64 0,.int .i64 0,.bool false,.bool false],.bool false]) (fun w hs=>?_)
  exact⟨(),rfl,hs.tail⟩
 |some y=>
  obtain⟨i,z,hi,hzn,hzk⟩:=hT.get hg;refine Xq<|Xg 2<|Bx 1 (Xn 147 [vi 0,vi 0,vi 0,vi 0,.bool false,.bool false] (some 4) (fun b=>vp b)) fun b1=>Be<|Xq<|Xg 11<|Bl 6 5 [(⟨t,0,none⟩,.map (some mb))] (hasC (ba 1) Zaa)<|Bs 5 (Zav (ZbW 207 (.tmp 12) (.tmp 13) true mb id (T.map kp) (.pointer none) (.tuple #[vp z.b,.bool true]) 3 208 (some 14) (fun _=>Kr) Kr Kr (fun _=>Kr) (fun _=>Kr) underlying207 Kr (fun _=>Kr) (ZbU (H:=(blk b1 147 [.int .i64 0,.int .i64 0,.int .i64 0,.int .i64 0,.bool false,.bool false]::blk t 210 [.map (some mb)]::Zbl mb (T.map kp)::(Zai T++H))) (i:=2) rfl) (by rw[Zbz hT hnd hi hzk];rfl)))<|Be<|Xq<|Xq<|Xg 2<|Be<|cF<|Xk<|Xq<|Xg 6<|Bl 2 4 [(⟨z.b,0,none⟩,vi z.n.id),(⟨z.b,1,none⟩,vi z.n.par),(⟨z.b,2,none⟩,vi z.n.wt),(⟨z.b,3,none⟩,vi z.n.pass),(⟨z.b,4,none⟩,.bool z.n.thr),(⟨z.b,5,none⟩,.bool z.n.rdy)] (hasC (up (up (up (Zbe (T:=T) (gMm hi) (j:=0) rfl)))) (hasC (up (up (up (Zbe (T:=T) (gMm hi) (j:=1) rfl)))) (hasC (up (up (up (Zbe (T:=T) (gMm hi) (j:=2) rfl)))) (hasC (up (up (up (Zbe (T:=T) (gMm hi) (j:=3) rfl)))) (hasC (up (up (up (Zbe (T:=T) (gMm hi) (j:=4) rfl)))) (hasC (up (up (up (Zbe (T:=T) (gMm hi) (j:=5) rfl)))) Zaa))))))<|Bs 1 (Xz [(0,vi z.n.id),(1,vi z.n.par),(2,vi z.n.wt),(3,vi z.n.pass),(4,.bool z.n.thr),(5,.bool z.n.rdy)])<|Be<|Xv ?_
  subst hzn;refine dB 0 (.tuple #[.agg #[.int .i64 z.n.id,.int .i64 z.n.par,.int .i64 z.n.wt,.int .i64 z.n.pass,.bool z.n.thr,.bool z.n.rdy],.bool true]) (fun w hs=>?_);exact⟨(),rfl,hs.tail⟩
def RK (N:List Nr)(rk:Int→Nat):Prop:=∀x∈N,(x.id=0→rk x.id=1)∧(x.id≠0→rk x.id=rk x.par+1)∧rk x.id≤5∧(x.thr=false→rk x.id≤4)
theorem RK.ups {N:List Nr}{rk:Int→Nat}(h:RK N rk){k:Int}{f:Nr→Nr}(hf:Skel f):RK (upN N k f) rk:=fun x hx=>by
 obtain⟨y,hy,⟨_,rfl⟩|⟨_,rfl⟩⟩:=Za0.1 hx
 ·rw[hf.id,hf.par,hf.thr];exact h y hy
 ·exact h x hy
theorem RK.pos {N:List Nr}{rk:Int→Nat}(h:RK N rk){x:Nr}(hx:x∈N):1≤rk x.id:=by
 by_cases c:x.id=0
 ·rw[(h x hx).1 c];omega
 ·rw[(h x hx).2.1 c];omega
theorem RK.up {N:List Nr}{rk:Int→Nat}(hs:SK N)(h:RK N rk){x p:Nr}(hx:x∈N)(hp:p∈N)(he:p.id=x.par):rk x.id=rk p.id+1:=by
 by_cases c:x.id=0
 ·have h1:=(hs.rt x hx c).1
  have h2:=hs.neg (k:=p.id) (by omega);rw[ZbY hs.nd hp]at h2;cases h2
 ·rw[(h x hx).2.1 c,he]
theorem SK.ne_par {N:List Nr}(hs:SK N){x:Nr}(hx:x∈N):x.id≠x.par:=by
 obtain⟨rk,h⟩:=hs.rk;intro e;have:=RK.up hs h hx hx e;omega
theorem SK.pos {N:List Nr}(hs:SK N){x:Nr}(hx:x∈N):0≤x.id:=by
 by_cases c:x.id=0
 ·omega
 ·have:=(hs.pa x hx c).1;omega
theorem OkT.uni {N:List Nr}{T:List Nd}(h:OkT N T)(hs:SK N){x:Nd}(hx:x∈T){e e':Int×Int}(he:e∈x.q)(he':e'∈x.q)(hk:e.2=e'.2):e=e':=by
 obtain⟨p,k⟩:=e;obtain⟨p',k'⟩:=e';simp only at hk;subst hk;rw[Zsq hs.nd ((h.mem x hx p k).1 he) ((h.mem x hx p' k).1 he')]
theorem OkT.qlen {N:List Nr}{T:List Nd}(h:OkT N T)(hs:SK N){x:Nd}(hx:x∈T):x.q.length<60:=by
 have h1:(x.n.id::x.q.map (·.2)).Nodup:=by
  refine List.nodup_cons.2 ⟨fun hm=>?_,?_⟩
  ·obtain⟨⟨p,k⟩,he,hk⟩:=List.mem_map.1 hm
   obtain⟨y,hy,h1,_,_,h4⟩:=(h.mem x hx p k).1 he;simp only at hk;have:=hs.ne_par hy;rw[h4,h1,hk]at this;exact this rfl
  ·refine List.pairwise_map.2 ((h.srt x hx).imp_of_mem fun {a b} ha hb hab e=>?_)
   have:=h.uni hs hx ha hb e;subst this;exact eLt_irrefl _ hab
 have h2:(x.n.id::x.q.map (·.2)) ⊆ N.map (·.id):=by
  intro k hk;rcases List.mem_cons.1 hk with rfl|hk
  ·exact List.mem_map.2 ⟨x.n,h.mem_n hx,rfl⟩
  ·obtain⟨⟨p,k⟩,he,rfl⟩:=List.mem_map.1 hk
   obtain⟨y,hy,_,_,_,h4⟩:=(h.mem x hx p k).1 he;exact List.mem_map.2 ⟨y,hy,h4⟩
 have h3:=h1.length_le_of_subset h2;have h4:=hs.len;simp only[List.length_cons,List.length_map]at h3;omega
theorem LB.ups {N:List Nr}(h:LB N){x:Nr}(hn:(N.map (·.id)).Nodup)(hx:x∈N){f:Nr→Nr}(h1:isW (f x).wt=true)(h2:0≤(f x).pass∧(f x).pass≤1099511627776)(h3:0≤(f x).now∧(f x).now≤1099511627776):LB (upN N x.id f):=by
 have key:∀y∈upN N x.id f,(y=f x)∨y∈N:=fun y hy=>by
  obtain⟨z,hz,⟨e,rfl⟩|⟨_,rfl⟩⟩:=Za0.1 hy
  ·left;rw[nd_eq hn hz hx e]
  ·exact .inr hz
 refine⟨fun y hy=>?_,fun y hy=>?_,fun y hy=>?_⟩<;>rcases key y hy with rfl|hy
 ·exact h1
 ·exact h.wt y hy
 ·exact h2
 ·exact h.pass y hy
 ·exact h3
 ·exact h.now y hy
def wkF (P:Int)(x:Nr):Nr:={x with rdy:=true,pass:=mxI x.pass P}
def rsF (x:Nr):Nr:={x with rdy:=false}
def psF (P:Int)(x:Nr):Nr:={x with pass:=P}
theorem Zbg (P:Int):Skel (wkF P):=⟨fun _=>rfl,fun _=>rfl,fun _=>rfl⟩
theorem Zbd :Skel rsF:=⟨fun _=>rfl,fun _=>rfl,fun _=>rfl⟩
theorem Zcw (P:Int):Skel (psF P):=⟨fun _=>rfl,fun _=>rfl,fun _=>rfl⟩
theorem Zn0 {T:List Nd}{i j:Nat}{x p x' p':Nd}(hi:T[i]? =some x)(hj:T[j]? =some p)(hij:i≠j)(hx:x'.n.id=x.n.id∧x'.b=x.b∧x'.ib=x.ib)(hp:p'.n.id=p.n.id∧p'.b=p.b∧p'.ib=p.ib):SameT T ((T.set i x').set j p'):=
 (SameT.set hi hx).trans (SameT.set (x:=p) (by rw[List.getElem?_set,if_neg hij];exact hj) hp)
theorem Zke {N:List Nr}{T:List Nd}(hT:OkT N T)(hsk:SK N)(hlb:LB N){i j:Nat}{x p:Nd}(hi:T[i]? =some x)(hj:T[j]? =some p)(hp:p.n.id=x.n.par)(hr:x.n.rdy=false):
  i≠j∧ZjB 60 p.q (mxI x.n.pass p.n.now) x.n.id=(0,Zd6 (mxI x.n.pass p.n.now,x.n.id) p.q)∧p.q.length<1000000∧SrtE p.q∧x.n.pass.natAbs<2^53∧p.n.now.natAbs<2^53∧
  OkT (upN N x.n.id (wkF p.n.now)) ((T.set i {x with n:=wkF p.n.now x.n}).set j {p with q:=Zd6 (mxI x.n.pass p.n.now,x.n.id) p.q})∧
  SameT T ((T.set i {x with n:=wkF p.n.now x.n}).set j {p with q:=Zd6 (mxI x.n.pass p.n.now,x.n.id) p.q})∧SK (upN N x.n.id (wkF p.n.now))∧LB (upN N x.n.id (wkF p.n.now)):=by
 have hxT:=gMm hi;have hpT:=gMm hj;have hx:=hT.mem_n hxT;have hpn:=hT.mem_n hpT;have hij:i≠j:=fun e=>by subst e;rw[hi]at hj;cases hj;exact hsk.ne_par hx hp
 have hno:∀e∈p.q,e.2≠x.n.id:=fun e he hk=>by
  obtain⟨s,k⟩:=e;simp only at hk;subst hk;have:=(ZhY hsk.nd hx).1 ((hT.mem p hpT s _).1 he);rw[hr]at this;cases this.2.1
 have hql:=hT.qlen hsk hpT;have h1:=hlb.pass x.n hx;have h2:=hlb.now p.n hpn;have hmx:0≤mxI x.n.pass p.n.now∧mxI x.n.pass p.n.now≤1099511627776:=by unfold mxI;split<;>omega
 refine⟨hij,Zqh hmx (hsk.pos hx) hno (by omega),by omega,hT.srt p hpT,by omega,by omega,?_,?_,hsk.upN (Zbg _),hlb.ups hsk.nd hx (hlb.wt x.n hx) hmx (hlb.now x.n hx)⟩
 ·refine hT.two hsk.nd hi hj hp hij (Zbg _) ((hT.srt p hpT).ins fun e he h=>hno e he (by rw[h])) fun s k=>?_
  rw[mem_insE,Zo0 hsk.nd hx (Zbg _),Prod.mk.injEq];show(s=mxI x.n.pass p.n.now∧k=x.n.id)∨(s,k)∈p.q↔(k≠x.n.id∧KD N p.n.id s k)∨(k=x.n.id∧x.n.par=p.n.id∧true=true∧mxI x.n.pass p.n.now=s);rw[hT.mem p hpT s k];show _∨KD N p.n.id s k↔_;constructor
  ·rintro(⟨rfl,rfl⟩|h)
   ·exact .inr ⟨rfl,hp.symm,rfl,rfl⟩
   ·exact .inl ⟨fun e=>hno (s,k) ((hT.mem p hpT s k).2 h) e,h⟩
  ·rintro(⟨_,h⟩|⟨h3,_,_,h4⟩)
   ·exact .inr h
   ·exact .inl ⟨h4.symm,h3⟩
 ·exact Zn0 hi hj hij ⟨rfl,rfl,rfl⟩ ⟨rfl,rfl,rfl⟩
theorem ZkC {N:List Nr}{T:List Nd}(hT:OkT N T)(hsk:SK N)(hlb:LB N){i j:Nat}{x p:Nd}(hi:T[i]? =some x)(hj:T[j]? =some p)(hp:p.n.id=x.n.par)(hr:x.n.rdy=true):
  i≠j∧p.q.length<1000000∧∃q,Zb7 p.q x.n.id=(0,q)∧OkT (upN N x.n.id rsF) ((T.set i {x with n:=rsF x.n}).set j {p with q:=q})∧SameT T ((T.set i {x with n:=rsF x.n}).set j {p with q:=q})∧SK (upN N x.n.id rsF)∧LB (upN N x.n.id rsF):=by
 have hxT:=gMm hi;have hpT:=gMm hj;have hx:=hT.mem_n hxT;have hij:i≠j:=fun e=>by subst e;rw[hi]at hj;cases hj;exact hsk.ne_par hx hp
 have hin:(x.n.pass,x.n.id)∈p.q:=(hT.mem p hpT _ _).2 ((ZhY hsk.nd hx).2 ⟨hp.symm,hr,rfl⟩);obtain⟨q,h1,h2,_,h4⟩:=ZjX (hT.srt p hpT) hin rfl (fun e' he' hk=>hT.uni hsk hpT he' hin hk);have hql:=hT.qlen hsk hpT;refine⟨hij,by omega,q,h1,?_,Zn0 hi hj hij ⟨rfl,rfl,rfl⟩ ⟨rfl,rfl,rfl⟩,hsk.upN Zbd,hlb.ups hsk.nd hx (hlb.wt x.n hx) (hlb.pass x.n hx) (hlb.now x.n hx)⟩;refine hT.two hsk.nd hi hj hp hij Zbd h2 fun s k=>?_
 rw[h4,Zo0 hsk.nd hx Zbd,hT.mem p hpT s k];show KD N p.n.id s k∧k≠x.n.id↔(k≠x.n.id∧KD N p.n.id s k)∨(k=x.n.id∧x.n.par=p.n.id∧false=true∧x.n.pass=s);simp[And.comm]
theorem Zkk {N:List Nr}{T:List Nd}(hT:OkT N T)(hsk:SK N)(hlb:LB N){i j:Nat}{x p:Nd}(hi:T[i]? =some x)(hj:T[j]? =some p)(hp:p.n.id=x.n.par)(hr:x.n.rdy=true){P:Int}(hP:0≤P∧P≤1099511627776):
  i≠j∧p.q.length<1000000∧SrtE p.q∧∃q,Zck p.q x.n.id P=(0,q)∧OkT (upN N x.n.id (psF P)) ((T.set i {x with n:=psF P x.n}).set j {p with q:=q})∧SameT T ((T.set i {x with n:=psF P x.n}).set j {p with q:=q})∧SK (upN N x.n.id (psF P))∧LB (upN N x.n.id (psF P)):=by
 have hxT:=gMm hi;have hpT:=gMm hj;have hx:=hT.mem_n hxT;have hij:i≠j:=fun e=>by subst e;rw[hi]at hj;cases hj;exact hsk.ne_par hx hp
 have hin:(x.n.pass,x.n.id)∈p.q:=(hT.mem p hpT _ _).2 ((ZhY hsk.nd hx).2 ⟨hp.symm,hr,rfl⟩);obtain⟨q,h1,h2,_,h4⟩:=rekeyE_is (hT.srt p hpT) hin rfl (fun e' he' hk=>hT.uni hsk hpT he' hin hk) hP;have hql:=hT.qlen hsk hpT;refine⟨hij,by omega,hT.srt p hpT,q,h1,?_,Zn0 hi hj hij ⟨rfl,rfl,rfl⟩ ⟨rfl,rfl,rfl⟩,hsk.upN (Zcw P),hlb.ups hsk.nd hx (hlb.wt x.n hx) hP (hlb.now x.n hx)⟩;refine hT.two hsk.nd hi hj hp hij (Zcw P) h2 fun s k=>?_
 rw[h4,Zo0 hsk.nd hx (Zcw P),hT.mem p hpT s k,Prod.mk.injEq];show(s=P∧k=x.n.id)∨(KD N p.n.id s k∧k≠x.n.id)↔(k≠x.n.id∧KD N p.n.id s k)∨(k=x.n.id∧x.n.par=p.n.id∧x.n.rdy=true∧P=s);rw[hr];constructor
 ·rintro(⟨rfl,rfl⟩|⟨h5,h6⟩)
  ·exact .inr ⟨rfl,hp.symm,rfl,rfl⟩
  ·exact .inl ⟨h6,h5⟩
 ·rintro(⟨h5,h6⟩|⟨h5,_,_,h6⟩)
  ·exact .inr ⟨h6,h5⟩
  ·exact .inl ⟨h6.symm,h5⟩
structure Climb (F:Nat→List Nr→Int→List Nr)(N:List Nr)(k0:Int)(T:List Nd)(rk:Int→Nat)(k:Nat)(T1:List Nd)(x1:Nd):Prop where
 ex:∃N1,OkT N1 T1∧SK N1∧LB N1∧RK N1 rk∧F 6 N k0=F k N1 x1.n.id
 same:SameT T T1
 mem:∃i:Nat,T1[i]? =some x1
 le:rk x1.n.id≤k
theorem Zkd {N:List Nr}{T:List Nd}(hT:OkT N T)(hsk:SK N)(hlb:LB N){i0:Nat}{x:Nd}(hx:T[i0]? =some x)(H:List SP)(t mb:Nat):U1 97 #[vp t,vp x.b] (blk t 210 [.map (some mb)]::Zbl mb (T.map kp)::(Zai T++H)) (ι:={T':List Nd//OkT (Zbk 6 N x.n.id) T'∧SameT T T'}) (fun _=> .tuple #[]) fun T'=>blk t 210 [.map (some mb)]::Zbl mb (T'.1.map kp)::(Zai T'.1++H):=by
 obtain⟨rk,hrk⟩:=hsk.rk;refine eG func97 58 ?_;refine ZcW 0 (fun(s:List Nd×Nd)=> [(0,vp t),(1,vp s.2.b)]) (fun(s:List Nd×Nd)=>(blk t 210 [.map (some mb)]::Zbl mb (s.1.map kp)::(Zai s.1++H))) (fun k (s:List Nd×Nd)=>Climb Zbk N x.n.id T rk k s.1 s.2) Kr Kr Kr Kr ?_ ?_
 ·rintro k ⟨T1,x1⟩ hC K hK;obtain⟨⟨N1,hT1,hs1,hb1,hr1,he⟩,hsame,⟨i,hi⟩,hle⟩:=hC;simp only at hT1 hsame hi hle he;have hm:=gMm hi;have hnd:=hs1.nd;have hpos:=hr1.pos (hT1.mem_n hm);obtain⟨k,rfl⟩:∃k',k=k'+1:=⟨k-1,by omega⟩
  have hgx:=hT1.at hnd hi;refine Xq<|Xq<|Xg 5<|Cm [(0,vp t),(1,vp x1.b),(9,.bool x1.n.rdy)] [(⟨x1.b,5,none⟩,.bool x1.n.rdy)] (hasC (up (up (Zbe (T:=T1) hm (j:=5) rfl))) Zaa)<|Xc (x1.n.rdy) (fun h1=>?_) (fun h1=>?_)
  ·exact Xv (Zab (ZcR (Y0 (.tuple #[]) fun w hs=>⟨⟨T1,by rw[he,Zbk,hgx];simp only[h1,if_true];exact hT1,hsame⟩,rfl,hs⟩)))
  ·cases hg:gt N1 x1.n.par with
   |none=>
    obtain⟨R,hR,hR2⟩:=ZiK hi;refine PT.open1 (hR) ?_;refine Xk<|Xq<|Xg 5<|Br 1 4<|Xh0 ?_ 2 1;refine Bs 0 (Xz [(5,.bool true)])<|endR<|Xq<|Xy0 0 [] 11<|At' [0,1,2,3,4,5,6,7,8] [(⟨t,0,none⟩,.map (some mb)),(⟨x1.b,1,none⟩,vi x1.n.par)] (hasC (ba 1) (hasC (ba 0) Zaa))<|Xu 9 (ZbW 207 (.tmp 17) (.tmp 22) false mb x1.n.par (T1.map kp) (.pointer none) (.pointer none) 3 208 (some 23) (fun _=>Kr) Kr Kr (fun _=>Kr) (fun _=>Kr) underlying207 Kr (fun _=>Kr) (ZbU (H:=(blk x1.b 213 [.int .i64 x1.n.id,.int .i64 x1.n.par,.int .i64 x1.n.wt,.int .i64 x1.n.pass,.bool x1.n.thr,.bool true,.int .i64 x1.n.now,vp x1.ib]::blk t 210 [.map (some mb)]::Zbl mb (T1.map kp)::Zco x1.ib 60 x1.q::(Zai R++H))) (i:=2) rfl) (by rw[lk_none hT1 hg];rfl))<|At' [10] [] Zaa<|Xd<|Xq<|Xq<|Xg 2<|Ce [(0,vp t),(1,vp x1.b),(4,.pointer none),(25,.bool true)]<|cT<|Xv<|Zab<|ZcR<|PT.pick 0 rfl<|PT.pick 2 rfl<|PT.pick 2 rfl ?_;refine PT.close1 ({x1 with n:={x1.n with rdy:=true}}) (hR2 _) ?_;have hsm:SameT T1 (T1.set i {x1 with n:={x1.n with rdy:=true}}):=SameT.set hi ⟨rfl,rfl,rfl⟩;rw[←hsm.kp];refine Y0 (.tuple #[]) (fun w hs=>?_);exact⟨⟨_,by rw[he,Zbk,hgx];simp only[h1,hg,Bool.false_eq_true,if_false];exact hT1.one hnd hi (f:=fun x=>{x with rdy:=true}) ⟨fun _=>rfl,fun _=>rfl,fun _=>rfl⟩ (.inl (ZaX.1 hg)),hsame.trans hsm⟩,rfl,hs⟩
   |some y=>
    obtain⟨j,p,hj,hpn,hpk⟩:=hT1.get hg;obtain⟨hij,hput,hql,hqs,hf1,hf2,hT2,hsm,hs2,hb2⟩:=Zke hT1 hs1 hb1 hi hj hpk h1;obtain⟨R,hR,hR2⟩:=Zoe hi hj hij;refine PT.open2 (hR) ?_;refine Xk<|Xq<|Xg 5<|Br 1 4<|Xh0 ?_ 2 1;refine Bs 0 (Xz [(5,.bool true)])<|endR<|Xq<|Xy0 0 [] 11<|At' [0,1,2,3,4,5,6,7,8] [(⟨t,0,none⟩,.map (some mb)),(⟨x1.b,1,none⟩,vi x1.n.par)] (hasC (ba 1) (hasC (ba 0) Zaa))<|Xu 9 (ZbW 207 (.tmp 17) (.tmp 22) false mb x1.n.par (T1.map kp) (.pointer none) (vp p.b) 3 208 (some 23) (fun _=>Kr) Kr Kr (fun _=>Kr) (fun _=>Kr) underlying207 Kr (fun _=>Kr) (ZbU (H:=(blk x1.b 213 [.int .i64 x1.n.id,.int .i64 x1.n.par,.int .i64 x1.n.wt,.int .i64 x1.n.pass,.bool x1.n.thr,.bool true,.int .i64 x1.n.now,vp x1.ib]::blk t 210 [.map (some mb)]::Zbl mb (T1.map kp)::Zco x1.ib 60 x1.q::blk p.b 213 [.int .i64 p.n.id,.int .i64 p.n.par,.int .i64 p.n.wt,.int .i64 p.n.pass,.bool p.n.thr,.bool p.n.rdy,.int .i64 p.n.now,vp p.ib]::Zco p.ib 60 p.q::(Zai R++H))) (i:=2) rfl) (by rw[Zbz hT1 hnd hj hpk];rfl))<|At' [10] [] Zaa<|Xd<|Xq<|Xq<|Xg 2<|Be<|cF<|Xk<|Xq<|Xy0 0 [15] 16<|At' [0,1,2,3,4,5,6,7,8,9] [(⟨x1.b,3,none⟩,vi x1.n.pass),(⟨p.b,6,none⟩,vi p.n.now)] (hasC (ba 0) (hasC (ba 4) Zaa))<|Yo 10 (Xa (some 36) _ (Zhf _ x1.n.pass p.n.now))<|Yo 11 (Xa (some 37) _ (ZfT _ x1.n.pass p.n.now hf1 hf2))<|At' [12,13,14] [] Zaa<|Yo 15 (Xz [(3,vi (mxI x1.n.pass p.n.now))])<|Xd<|Xq<|Xq<|PT.pick 5 rfl<|Xy0 1 [] 16<|At' [0,1,2,3,4,5,6,7,8,9,10,11,12,13] [(⟨p.b,7,none⟩,vp p.ib),(⟨x1.b,3,none⟩,vi (mxI x1.n.pass p.n.now)),(⟨x1.b,0,none⟩,vi x1.n.id)] (hasC (ba 4) (hasC (ba 0) (hasC (ba 0) Zaa)))<|Yo 14 (Xa (some 55) _ (ZrC hput hqs hql _ _))<|At' [15] [] Zaa<|Xd<|cF<|Xk (Xq (Xg 2 (Ce [(0,vp t),(1,vp p.b)] ?_)));refine Zep 0 Kr Kr ?_;refine PT.pick 0 rfl<|PT.pick 5 rfl<|PT.pick 5 rfl<|PT.pick 3 rfl<|PT.pick 5 rfl<|PT.pick 5 rfl ?_;refine PT.close2 ({x1 with n:=wkF p.n.now x1.n}) ({p with q:=Zd6 (mxI x1.n.pass p.n.now,x1.n.id) p.q}) (hR2 _ _) ?_;rw[←hsm.kp];have hpj:((T1.set i {x1 with n:=wkF p.n.now x1.n}).set j {p with q:=Zd6 (mxI x1.n.pass p.n.now,x1.n.id) p.q})[j]? =some {p with q:=Zd6 (mxI x1.n.pass p.n.now,x1.n.id) p.q}:=by rw[List.getElem?_set_self (by rw[List.length_set];exact(gSs hj).1)]
    exact Xp _ (Zen (hK k (_,{p with q:=Zd6 (mxI x1.n.pass p.n.now,x1.n.id) p.q}) (by omega) ⟨⟨_,hT2,hs2,hb2,hr1.ups (Zbg _),by rw[he,Zbk,hgx];simp only[h1,hg,Bool.false_eq_true,if_false];rw[←hpn,hpk];rfl⟩,hsame.trans hsm,⟨j,hpj⟩,by have:=RK.up hs1 hr1 (hT1.mem_n hm) (hT1.mem_n (gMm hj)) hpk;simp only;omega⟩))
 ·intro K hK;refine Xq ?_;refine ZcY Kr ?_;refine Xp [(0,vp t),(1,vp x.b)] ?_;refine ZeC Kr (hK 6 (T,x) ⟨⟨N,hT,hsk,hlb,hrk,rfl⟩,SameT.refl T,⟨i0,hx⟩,by have:=(hrk _ (hT.mem_n (gMm hx))).2.2.1;simp only;omega⟩)
theorem ZrB {N:List Nr}{T:List Nd}(h:OkT N T){x:Nd}(hx:x∈T):x.q≠ []↔Zcy N x.n.id≠ []:=by
 rw[ZmS];constructor
 ·intro hq
  obtain⟨⟨p,k⟩,he⟩:=List.exists_mem_of_ne_nil _ hq;exact⟨p,k,(h.mem x hx p k).1 he⟩
 ·rintro⟨p,k,hk⟩
  exact List.ne_nil_of_mem ((h.mem x hx p k).2 hk)
theorem Zmd {N:List Nr}{T:List Nd}(h:OkT N T){x:Nd}(hx:x∈T):(!x.n.rdy||decide ((x.q.length:Int)>0))=true↔(x.n.rdy=false∨Zcy N x.n.id≠ []):=by
 rw[←ZrB h hx,Bool.or_eq_true,decide_eq_true_eq,Bool.not_eq_true'];have:((x.q.length:Int)>0)↔x.q≠ []:=by
  constructor
  ·intro h e;rw[e]at h;simp at h
  ·intro h;have:=List.length_pos_iff.2 h;omega
 rw[this]
theorem ZfP {N:List Nr}{T:List Nd}(hT:OkT N T)(hsk:SK N)(hlb:LB N){i0:Nat}{x:Nd}(hx:T[i0]? =some x)(H:List SP)(t mb:Nat):U1 98 #[vp t,.pointer (some ⟨x.b,0,none⟩)] (blk t 210 [.map (some mb)]::Zbl mb (T.map kp)::(Zai T++H)) (ι:={T':List Nd//OkT (restN 6 N x.n.id) T'∧SameT T T'}) (fun _=> .tuple #[]) fun T'=>blk t 210 [.map (some mb)]::Zbl mb (T'.1.map kp)::(Zai T'.1++H):=by
 obtain⟨rk,hrk⟩:=hsk.rk;refine eG func98 49 ?_;refine ZcW 0 (fun(s:List Nd×Nd)=> [(0,vp t),(1,.pointer (some ⟨s.2.b,0,none⟩))]) (fun(s:List Nd×Nd)=>(blk t 210 [.map (some mb)]::Zbl mb (s.1.map kp)::(Zai s.1++H))) (fun k (s:List Nd×Nd)=>Climb restN N x.n.id T rk k s.1 s.2) Kr Kr Kr Kr ?_ ?_
 ·rintro k ⟨T1,x1⟩ hC K hK;obtain⟨⟨N1,hT1,hs1,hb1,hr1,he⟩,hsame,⟨i,hi⟩,hle⟩:=hC;simp only at hT1 hsame hi hle he;have hm:=gMm hi;have hnd:=hs1.nd;have hpos:=hr1.pos (hT1.mem_n hm);obtain⟨k,rfl⟩:∃k',k=k'+1:=⟨k-1,by omega⟩
  have hgx:=hT1.at hnd hi;have htest:=Zmd hT1 hm;cases hg:gt N1 x1.n.par with
  | none=>
   obtain⟨R,hR,hR2⟩:=ZiK hi;refine PT.open1 (hR) ?_;refine Xq (Xq (Xg 14 (Xl [(0,vp t),(1,.pointer (some ⟨x1.b,0,none⟩)),(11,.bool (!x1.n.rdy))] [(⟨x1.b,5,none⟩,.bool x1.n.rdy)] (hasC (ba 2) Zaa) ?_ 7 7)));refine(Xs0 0 7 [(0,vp t),(1,.pointer (some ⟨x1.b,0,none⟩)),(18,.bool ((!x1.n.rdy)||(decide ((x1.q.length:Int)>0))))] ?_ ?_:RT _ _ _ _ _ _ 7 _)
   ·cases hg7:(!x1.n.rdy)with
    |true=>
     refine Ae 7 ?_;exact mA ()
    |false=>
     refine Al [(⟨x1.b,7,none⟩,.pointer (some ⟨x1.ib,0,none⟩))] (hasC (ba 2) Zaa) ?_ 3 4;refine Xs (Xa (some 16) _ (Zgd 3 rfl (ZmH _ x1.ib 60 x1.q))) (fun _=>?_) 2;refine Ae 2 ?_;exact mA ()
   refine endR ?_;refine Xc ((!x1.n.rdy)||(decide ((x1.q.length:Int)>0))) (fun h1=>?_) (fun h1=>?_)
   ·refine PT.close1 x1 (hR) ?_;refine Xv (Zab (ZcR (Y0 (.tuple #[]) (fun w hs=>?_))));exact⟨⟨T1,by rw[he,restN,hgx];simp only[if_pos (htest.1 h1)];exact hT1,hsame⟩,rfl,hs⟩
   ·refine Xk (Xq (Xg 5 (Ar ?_ 1 4)));refine Xh0 ?_ 2 1;refine Xs (Xz [(5,.bool false)]) (fun _=>?_) 0;refine endR ?_;refine Xq (Xy0 0 [] 11 ?_);refine At' [0,1,2,3,4,5,6,7,8] [(⟨t,0,none⟩,.map (some mb)),(⟨x1.b,1,none⟩,vi x1.n.par)] (hasC (ba 1) (hasC (ba 0) Zaa)) ?_;refine Xu 9 (ZbW 207 (.tmp 26) (.tmp 31) false mb x1.n.par (T1.map kp) (.pointer none) (.pointer none) 3 208 (some 32) (fun _=>Kr) Kr Kr (fun _=>Kr) (fun _=>Kr) underlying207 Kr (fun _=>Kr) (ZbU (H:=(blk x1.b 213 [.int .i64 x1.n.id,.int .i64 x1.n.par,.int .i64 x1.n.wt,.int .i64 x1.n.pass,.bool x1.n.thr,.bool false,.int .i64 x1.n.now,.pointer (some ⟨x1.ib,0,none⟩)]::blk t 210 [.map (some mb)]::Zbl mb (T1.map kp)::Zco x1.ib 60 x1.q::(Zai R++H))) (i:=2) rfl) (by rw[lk_none hT1 hg];rfl)) ?_;refine At' [10] [] Zaa ?_;refine Xd (Xq (Xq (Xy0 0 [] 15 ?_)));refine Xt [0,1,2,3,4,5,6,7,8,9,10,11,12,13,14] [(0,vp t),(1,.pointer (some ⟨x1.b,0,none⟩)),(4,.pointer none),(47,.bool true)] [] Zaa ?_;refine Xd (Xc true (fun _=>?_) (fun h=>by cases h));refine Xv (Zab (ZcR ?_));refine PT.pick 0 rfl ?_;refine PT.pick 2 rfl ?_;refine PT.pick 2 rfl ?_;refine PT.close1 ({x1 with n:=rsF x1.n}) (hR2 _) ?_;have hsm:SameT T1 (T1.set i {x1 with n:=rsF x1.n}):=SameT.set hi ⟨rfl,rfl,rfl⟩;have h2:¬(x1.n.rdy=false∨Zcy N1 x1.n.id≠ []):=fun h=>by rw[htest.2 h]at h1;cases h1
    rw[←hsm.kp];refine Y0 (.tuple #[]) (fun w hs=>?_);exact⟨⟨_,by rw[he,restN,hgx];simp only[if_neg h2,hg];exact hT1.one hnd hi Zbd (.inl (ZaX.1 hg)),hsame.trans hsm⟩,rfl,hs⟩
  | some y=>
   obtain⟨j,p,hj,hpn,hpk⟩:=hT1.get hg;have hij:i≠j:=fun e=>by subst e;rw[hi]at hj;cases hj;exact hs1.ne_par (hT1.mem_n hm) hpk
   obtain⟨R,hR,hR2⟩:=Zoe hi hj hij;refine PT.open2 (hR) ?_;refine Xq (Xq (Xg 14 (Xl [(0,vp t),(1,.pointer (some ⟨x1.b,0,none⟩)),(11,.bool (!x1.n.rdy))] [(⟨x1.b,5,none⟩,.bool x1.n.rdy)] (hasC (ba 2) Zaa) ?_ 7 7)));refine(Xs0 0 7 [(0,vp t),(1,.pointer (some ⟨x1.b,0,none⟩)),(18,.bool ((!x1.n.rdy)||(decide ((x1.q.length:Int)>0))))] ?_ ?_:RT _ _ _ _ _ _ 7 _)
   ·cases hg7:(!x1.n.rdy)with
    |true=>
     refine Ae 7 ?_;exact mA ()
    |false=>
     refine Al [(⟨x1.b,7,none⟩,.pointer (some ⟨x1.ib,0,none⟩))] (hasC (ba 2) Zaa) ?_ 3 4;refine Xs (Xa (some 16) _ (Zgd 3 rfl (ZmH _ x1.ib 60 x1.q))) (fun _=>?_) 2;refine Ae 2 ?_;exact mA ()
   refine endR ?_;refine Xc ((!x1.n.rdy)||(decide ((x1.q.length:Int)>0))) (fun h1=>?_) (fun h1=>?_)
   ·refine PT.close2 x1 p (hR) ?_;refine Xv (Zab (ZcR (Y0 (.tuple #[]) (fun w hs=>?_))));exact⟨⟨T1,by rw[he,restN,hgx];simp only[if_pos (htest.1 h1)];exact hT1,hsame⟩,rfl,hs⟩
   ·have h2:¬(x1.n.rdy=false∨Zcy N1 x1.n.id≠ []):=fun h=>by rw[htest.2 h]at h1;cases h1
    have hrd:x1.n.rdy=true:=by cases hc:x1.n.rdy with|true=>rfl|false=>exact absurd (.inl hc) h2
    obtain⟨_,hql,q,hdr,hT2,hsm,hs2,hb2⟩:=ZkC hT1 hs1 hb1 hi hj hpk hrd;refine Xk (Xq (Xg 5 (Ar ?_ 1 4)));refine Xh0 ?_ 2 1;refine Xs (Xz [(5,.bool false)]) (fun _=>?_) 0;refine endR ?_;refine Xq (Xy0 0 [] 11 ?_);refine At' [0,1,2,3,4,5,6,7,8] [(⟨t,0,none⟩,.map (some mb)),(⟨x1.b,1,none⟩,vi x1.n.par)] (hasC (ba 1) (hasC (ba 0) Zaa)) ?_;refine Xu 9 (ZbW 207 (.tmp 26) (.tmp 31) false mb x1.n.par (T1.map kp) (.pointer none) (.pointer (some ⟨p.b,0,none⟩)) 3 208 (some 32) (fun _=>Kr) Kr Kr (fun _=>Kr) (fun _=>Kr) underlying207 Kr (fun _=>Kr) (ZbU (H:=(blk x1.b 213 [.int .i64 x1.n.id,.int .i64 x1.n.par,.int .i64 x1.n.wt,.int .i64 x1.n.pass,.bool x1.n.thr,.bool false,.int .i64 x1.n.now,.pointer (some ⟨x1.ib,0,none⟩)]::blk t 210 [.map (some mb)]::Zbl mb (T1.map kp)::Zco x1.ib 60 x1.q::blk p.b 213 [.int .i64 p.n.id,.int .i64 p.n.par,.int .i64 p.n.wt,.int .i64 p.n.pass,.bool p.n.thr,.bool p.n.rdy,.int .i64 p.n.now,.pointer (some ⟨p.ib,0,none⟩)]::Zco p.ib 60 p.q::(Zai R++H))) (i:=2) rfl) (by rw[Zbz hT1 hnd hj hpk];rfl)) ?_;refine At' [10] [] Zaa ?_;refine Xd (Xq (Xq ?_));refine PT.pick 5 rfl ?_;refine Xy0 1 [] 15 ?_;refine At' [0,1,2,3,4,5,6,7,8,9,10,11] [(⟨p.b,7,none⟩,.pointer (some ⟨p.ib,0,none⟩)),(⟨x1.b,0,none⟩,vi x1.n.id)] (hasC (ba 4) (hasC (ba 0) Zaa)) ?_;refine Xo 12 (Xa (some 45) _ (drop_ok hdr hql _ _)) (fun _=>?_);refine At' [13,14] [] Zaa ?_;refine Xd (Xc false (fun h=>by cases h) (fun _=>?_));refine Xk (Xq (Xg 2 (Xe [(0,vp t),(1,.pointer (some ⟨p.b,0,none⟩))] ?_ 2)));refine Zep 0 Kr Kr ?_;refine PT.pick 0 rfl ?_;refine PT.pick 5 rfl ?_;refine PT.pick 5 rfl ?_;refine PT.pick 3 rfl ?_;refine PT.pick 5 rfl ?_;refine PT.pick 5 rfl ?_;refine PT.close2 ({x1 with n:=rsF x1.n}) ({p with q:=q}) (hR2 _ _) ?_;rw[←hsm.kp];have hpj:((T1.set i {x1 with n:=rsF x1.n}).set j {p with q:=q})[j]? =some {p with q:=q}:=by rw[List.getElem?_set_self (by rw[List.length_set];exact(gSs hj).1)]
    exact Xp _ (Zen (hK k (_,{p with q:=q}) (by omega) ⟨⟨_,hT2,hs2,hb2,hr1.ups Zbd,by rw[he,restN,hgx];simp only[if_neg h2,hg];rw[hpk];rfl⟩,hsame.trans hsm,⟨j,hpj⟩,by have:=RK.up hs1 hr1 (hT1.mem_n hm) (hT1.mem_n (gMm hj)) hpk;simp only;omega⟩))
 ·intro K hK;refine Xq ?_;refine ZcY Kr ?_;refine Xp [(0,vp t),(1,.pointer (some ⟨x.b,0,none⟩))] ?_;refine ZeC Kr (hK 6 (T,x) ⟨⟨N,hT,hsk,hlb,hrk,rfl⟩,SameT.refl T,⟨i0,hx⟩,by have:=(hrk _ (hT.mem_n (gMm hx))).2.2.1;simp only;omega⟩)
theorem ZkF {N:List Nr}{T:List Nd}(hT:OkT N T)(hsk:SK N)(hlb:LB N)(H:List SP)(t mb:Nat)(id:Int)(r:Bool):U1 60 #[vp t,vi id,.bool r] (blk t 210 [.map (some mb)]::Zbl mb (T.map kp)::(Zai T++H)) (ι:={T':List Nd//OkT (Zag N id r).2 T'∧SameT T T'}) (fun _=>Zal (Zag N id r).1) fun T'=>blk t 210 [.map (some mb)]::Zbl mb (T'.1.map kp)::(Zai T'.1++H):=by
 refine eG func60 38 ?_;cases hg:gt N id with
 |none=>
  refine Xq<|Xg 1<|Be<|Xq<|Xg 11<|Bl 6 5 [(⟨t,0,none⟩,.map (some mb))] (hasC (ba 0) Zaa)<|Bs 5 (Zav (ZbW 207 (.tmp 13) (.tmp 14) true mb id (T.map kp) (.pointer none) (.tuple #[.pointer none,.bool false]) 3 208 (some 15) (fun _=>Kr) Kr Kr (fun _=>Kr) (fun _=>Kr) underlying207 Kr (fun _=>Kr) (ZbU (H:=(blk t 210 [.map (some mb)]::Zbl mb (T.map kp)::(Zai T++H))) (i:=1) rfl) (by rw[lk_none hT hg];rfl)))<|Be<|Xq<|Xb 0<|Xq<|Xg 11<|Be<|cT<|Xq<|Xg 2<|Be<|Xv (Zae (Zab ?_));have hrn:Zag N id r=(13,N):=by rw[Zag,hg]
  refine Y0 (.iface 126 (vi 13)) (fun w hs=>?_);exact⟨⟨T,by rw[hrn];exact hT,SameT.refl T⟩,by show _=Ending.returned (Zal (Zag N id r).1);rw[hrn];rfl,hs⟩
 | some y=>
  obtain⟨i,z,hi,hzn,hzk⟩:=hT.get hg;have hm:=gMm hi;refine Xq<|Xg 1<|Be<|Xq<|Xg 11<|Bl 6 5 [(⟨t,0,none⟩,.map (some mb))] (hasC (ba 0) Zaa)<|Bs 5 (Zav (ZbW 207 (.tmp 13) (.tmp 14) true mb id (T.map kp) (.pointer none) (.tuple #[vp z.b,.bool true]) 3 208 (some 15) (fun _=>Kr) Kr Kr (fun _=>Kr) (fun _=>Kr) underlying207 Kr (fun _=>Kr) (ZbU (H:=(blk t 210 [.map (some mb)]::Zbl mb (T.map kp)::(Zai T++H))) (i:=1) rfl) (by rw[Zbz hT hsk.nd hi hzk];rfl)))<|Be<|Xq<|Xb 0<|Xq<|Xg 11<|Bm [(⟨z.b,4,none⟩,.bool z.n.thr)] (hasC (up (up (Zbe (T:=T) hm (j:=4) rfl))) Zaa)<|Xc (!z.n.thr) (fun h1=>?_) (fun h1=>?_)
  ·have hth:y.thr=false:=by rw[←hzn];simpa using h1
   refine Xq<|Xg 2<|Be<|Xv (Zae (Zab ?_));have hrn:Zag N id r=(13,N):=by rw[Zag,hg];simp only[hth];rfl
   refine Y0 (.iface 126 (vi 13)) (fun w hs=>?_);exact⟨⟨T,by rw[hrn];exact hT,SameT.refl T⟩,by show _=Ending.returned (Zal (Zag N id r).1);rw[hrn];rfl,hs⟩
  ·have hth:y.thr=true:=by rw[←hzn];simpa using h1
   refine Xq<|Xg 2<|Be<|Xc r (fun h2=>?_) (fun h2=>?_)
   ·refine Xg 3<|Br 1 2<|Bx 0 (Xa (some 37) _ (Zkd hT hsk hlb hi H t mb)) fun(T':{T':List Nd//OkT (Zbk 6 N z.n.id) T'∧SameT T T'})=>endR<|Xq<|Xg 1<|Be<|Xv ?_
    have hrn:Zag N id r=(0,Zbk 6 N z.n.id):=by rw[Zag,hg];simp only[hth,h2,if_true];rw[←hzk]
    refine Y0 (.nilIface) (fun w hs=>?_);exact⟨⟨T'.1,by rw[hrn];exact T'.2.1,T'.2.2⟩,by show _=Ending.returned (Zal (Zag N id r).1);rw[hrn];rfl,hs⟩
   ·refine Xg 3<|Br 1 2<|Bx 0 (Xa (some 20) _ (ZfP hT hsk hlb hi H t mb)) fun(T':{T':List Nd//OkT (restN 6 N z.n.id) T'∧SameT T T'})=>endR<|Xq<|Xg 1<|Be<|Xv ?_
    have hrn:Zag N id r=(0,restN 6 N z.n.id):=by rw[Zag,hg];simp only[hth,h2,if_true,Bool.false_eq_true,if_false];rw[←hzk]
    refine Y0 (.nilIface) (fun w hs=>?_);exact⟨⟨T'.1,by rw[hrn];exact T'.2.1,T'.2.2⟩,by show _=Ending.returned (Zal (Zag N id r).1);rw[hrn];rfl,hs⟩
theorem ZeG {α:Type}{l:List α}{i:Nat}{x:α}(h:l[i]? =some x):l.set i x=l:=by
 apply List.ext_getElem?;intro j;rw[List.getElem?_set];split
 ·rename_i e;subst e;rw[if_pos (gSs h).1,h]
 ·rfl
theorem ZgT {N:List Nr}{T:List Nd}(hT:OkT N T)(hsk:SK N)(hlb:LB N){i:Nat}{x:Nd}(hi:T[i]? =some x){y:Nr}(hg:gt N x.n.par=some y){P:Int}(hP:0≤P∧P≤1099511627776)(H:List SP)(t mb:Nat):U1 104 #[vp t,vp x.b,vi P] (blk t 210 [.map (some mb)]::Zbl mb (T.map kp)::(Zai T++H)) (ι:={T':List Nd//OkT (upN N x.n.id (psF P)) T'∧SameT T T'∧SK (upN N x.n.id (psF P))∧LB (upN N x.n.id (psF P))}) (fun _=> .nilIface) fun T'=>blk t 210 [.map (some mb)]::Zbl mb (T'.1.map kp)::(Zai T'.1++H):=by
 have hm:=gMm hi;obtain⟨j,p,hj,hpn,hpk⟩:=hT.get hg;have hij:i≠j:=fun e=>by subst e;rw[hi]at hj;cases hj;exact hsk.ne_par (hT.mem_n hm) hpk
 obtain⟨R,hR,hR2⟩:=Zoe hi hj hij;refine eG func104 43 ?_;refine PT.open2 (hR) ?_;refine Xq<|Xg 1<|Be<|Xq<|Xg 6<|Br 1 5<|Xh0 ?_ 2 1;refine Bs 0 (Xz [(3,vi P)])<|endR<|Xq<|Xq<|Xy0 0 [] 11<|At' [0,1,2,3,4,5,6,7,8] [(⟨t,0,none⟩,.map (some mb)),(⟨x.b,1,none⟩,vi x.n.par)] (hasC (ba 1) (hasC (ba 0) Zaa))<|Xu 9 (ZbW 207 (.tmp 16) (.tmp 21) false mb x.n.par (T.map kp) (.pointer none) (vp p.b) 3 208 (some 22) (fun _=>Kr) Kr Kr (fun _=>Kr) (fun _=>Kr) underlying207 Kr (fun _=>Kr) (ZbU (H:=(blk x.b 213 [.int .i64 x.n.id,.int .i64 x.n.par,.int .i64 x.n.wt,.int .i64 P,.bool x.n.thr,.bool x.n.rdy,.int .i64 x.n.now,vp x.ib]::blk t 210 [.map (some mb)]::Zbl mb (T.map kp)::Zco x.ib 60 x.q::blk p.b 213 [.int .i64 p.n.id,.int .i64 p.n.par,.int .i64 p.n.wt,.int .i64 p.n.pass,.bool p.n.thr,.bool p.n.rdy,.int .i64 p.n.now,vp p.ib]::Zco p.ib 60 p.q::(Zai R++H))) (i:=2) rfl) (by rw[Zbz hT hsk.nd hj hpk];rfl))<|At' [10] [] Zaa<|Xd<|Xq<|Xg 9<|Bm [(⟨x.b,5,none⟩,.bool x.n.rdy)] (hasC (ba 0) Zaa)<|Xc (x.n.rdy) (fun h1=>?_) (fun h1=>?_)
 ·obtain⟨_,hql,hqs,q,hrk,hT2,hsm,hs2,hb2⟩:=Zkk hT hsk hlb hi hj hpk h1 hP;refine Xq<|PT.pick 5 rfl<|Xy0 1 [] 12<|At' [0,1,2,3,4,5,6,7,8,9] [(⟨p.b,7,none⟩,vp p.ib),(⟨x.b,0,none⟩,vi x.n.id)] (hasC (ba 4) (hasC (ba 0) Zaa))<|Yo 10 (Xa (some 42) _ (rekey_ok hrk hqs hql _ _))<|Xt [11] [(6,.nilIface)] [] Zaa<|Xd<|Xv<|Zab<|PT.pick 0 rfl<|PT.pick 5 rfl<|PT.pick 5 rfl<|PT.pick 3 rfl<|PT.pick 5 rfl<|PT.pick 5 rfl ?_;refine PT.close2 ({x with n:=psF P x.n}) ({p with q:=q}) (hR2 _ _) ?_;rw[←hsm.kp];refine Y0 (.nilIface) (fun w hs=>?_);exact⟨⟨_,hT2,hsm,hs2,hb2⟩,rfl,hs⟩
 ·refine Xk<|Xq<|Xg 1<|Ce [(6,.nilIface)]<|Xv<|PT.pick 0 rfl<|PT.pick 2 rfl<|PT.pick 2 rfl ?_;refine PT.close2 ({x with n:=psF P x.n}) p (hR2 _ p) ?_;have hsm:SameT T ((T.set i {x with n:=psF P x.n}).set j p):=Zn0 hi hj hij ⟨rfl,rfl,rfl⟩ ⟨rfl,rfl,rfl⟩;have hpj:(T.set i {x with n:=psF P x.n})[j]? =some p:=by rw[List.getElem?_set_ne hij];exact hj
  have hsj:(T.set i {x with n:=psF P x.n}).set j p=T.set i {x with n:=psF P x.n}:=ZeG hpj;rw[←hsm.kp];refine Y0 (.nilIface) (fun w hs=>?_);exact⟨⟨(T.set i {x with n:=psF P x.n}).set j p,by rw[hsj];exact hT.one hsk.nd hi (Zcw P) (.inr ⟨rfl,.inr h1⟩),hsm,hsk.upN (Zcw P),hlb.ups hsk.nd (hT.mem_n hm) (hlb.wt x.n (hT.mem_n hm)) hP (hlb.now x.n (hT.mem_n hm))⟩,rfl,hs⟩
def nE :Enc Nr:=⟨6,by decide,fun x=> [.int .i64 x.id,.int .i64 x.par,.int .i64 x.wt,.int .i64 x.pass,.bool x.thr,.bool x.rdy],fun _=>rfl,by intro a u hu;simp at hu;rcases hu with rfl|rfl|rfl|rfl|rfl|rfl<;>rfl⟩
theorem Zpj :Ety Tryz.prog nE 147 (.agg #[.int .i64 0,.int .i64 0,.int .i64 0,.int .i64 0,.bool false,.bool false]):=by
 obtain⟨i,hi,hz,hs,hb⟩:=info_parts (P:=Tryz.prog) (e:=147) (z:= .agg #[.int .i64 0,.int .i64 0,.int .i64 0,.int .i64 0,.bool false,.bool false]) (size:=6) (bytes:=40) Kr;exact⟨⟨i,hi,hz,hs,by omega⟩,rfl⟩
def Zaw (N:List Nr):List Nr:=(ZbA (N.map (·.id))).map fun k=>(gt N k).getD ZbE
theorem Zej (N:List Nr):(Zaw N).length=N.length:=by rw[Zaw,List.length_map,ZgR,List.length_map]
theorem Zmu {N:List Nr}(hn:(N.map (·.id)).Nodup){u:Nat}{k:Int}(h:(ZbA (N.map (·.id)))[u]? =some k):∃y,gt N k=some y∧(Zaw N)[u]? =some y:=by
 have hk:k∈N.map (·.id):=ZlO.1 (gMm h);obtain⟨y,hy,rfl⟩:=List.mem_map.1 hk;refine⟨y,ZbY hn hy,?_⟩;rw[Zaw,List.getElem?_map,h,Option.map_some,ZbY hn hy];rfl
theorem wf64 {x:Int}(h0:0≤x)(h1:x≤9223372036854775807):(Lit.int .i64 x).wf=true:=by
 simp only[Lit.wf,Bool.and_eq_true,decide_eq_true_eq];have e1:IntKind.i64.min= -9223372036854775808:=by decide
 have e2:IntKind.i64.max=9223372036854775807:=by decide
 omega
theorem ZrP {N:List Nr}{T:List Nd}(hT:OkT N T):(T.map kp).map (·.1)=N.map (·.id):=by
 rw[List.map_map,←hT.n,List.map_map];rfl
theorem ZkN {N:List Nr}{T:List Nd}(hT:OkT N T)(hsk:SK N)(hid:∀x∈N,x.id≤9223372036854775807)(H:List SP)(t mb:Nat):U1 57 #[vp t] (blk t 210 [.map (some mb)]::Zbl mb (T.map kp)::(Zai T++H)) (ι:=AN) (fun x=> .slice x.1 (Zaw N).length x.2) fun x=>row nE 147 (.slice x.1 (Zaw N).length x.2) (Zaw N)::blk t 210 [.map (some mb)]::Zbl mb (T.map kp)::(Zai T++H):=by
 have hK:=ZrP hT;have hlen:(ZbA (N.map (·.id))).length=N.length:=by rw[ZgR,List.length_map]
 have hN60:=hsk.len;refine eG func57 31 ?_;refine Xq<|Xg 1<|Be<|Xq<|Xg 1<|Be<|Xq<|Xq<|Xg 8<|Bl 4 4 [(⟨t,0,none⟩,.map (some mb))] (hasC (ba 0) Zaa)<|Bx 3 (Xa (some 10) _ (ZmX _ mb)) fun(kb:Nat)=>Xh0 ?_ 1 3
 refine Xh0 ?_ 2 3;refine Xh0 ?_ 2 3;refine Bx 2 (Xa (some 11) _ ((by have h:=Zif (blk t 210 [.map (some mb)]::(Zai T++H)) kb mb (T.map kp) (by rw[List.length_map,hT.len];omega) (fun p hp=>by obtain⟨z,hz,rfl⟩:=List.mem_map.1 hp;exact wf64 (hsk.pos (hT.mem_n hz)) (hid _ (hT.mem_n hz)));rw[hK]at h;exact h))) fun(ks:AN)=>Be<|Xb 0 ?_
 obtain⟨ka,kc⟩:=ks;refine PT.pick 1 rfl<|PT.drop<|PT.pick 1 rfl<|PT.pick 2 rfl<|PT.pick 2 rfl ?_;refine PT.rowNil nE 147 ?_;refine Xp [(0,vp t),(3,.slice none 0 0),(11,.slice ka ((ZbA (N.map (·.id))).length) kc),(12,vi ((ZbA (N.map (·.id))).length:Int)),(13,vi 0)] ?_;refine ZbV (fun(s:AN×Nat)=> [(0,vp t),(3,.slice s.1.1 (((Zaw N).take s.2).length) s.1.2),(11,.slice ka ((ZbA (N.map (·.id))).length) kc),(12,vi ((ZbA (N.map (·.id))).length:Int)),(13,vi (s.2:Int))]) (fun(s:AN×Nat)=>(row nE 147 (.slice s.1.1 ((Zaw N).take s.2).length s.1.2) ((Zaw N).take s.2)::row Zm1 3 (.slice ka (ZbA (N.map (·.id))).length kc) (ZbA (N.map (·.id)))::blk t 210 [.map (some mb)]::Zbl mb (T.map kp)::(Zai T++H))) (fun k (s:AN×Nat)=>k+s.2=N.length) N.length ((none,0),0) Kr rfl ?_;rintro k ⟨⟨qa,qc⟩,u⟩ hku;simp only at hku;refine Xq<|Xg 1<|Ce [(0,vp t),(3,.slice qa (((Zaw N).take u).length) qc),(11,.slice ka ((ZbA (N.map (·.id))).length) kc),(12,vi ((ZbA (N.map (·.id))).length:Int)),(13,vi u),(14,.bool (decide ((u:Int)< ((ZbA (N.map (·.id))).length:Int))))]<|Xq (Xc (decide ((u:Int)< ((ZbA (N.map (·.id))).length:Int))) (fun h1=>?_) (fun h1=>?_))
 ·have hu:u<N.length:=by have:=of_decide_eq_true h1;omega
  obtain⟨kk,hkk⟩:∃kk,(ZbA (N.map (·.id)))[u]? =some kk:=⟨_,gEe (by omega)⟩
  obtain⟨y,hy,hny⟩:=Zmu hsk.nd hkk;obtain⟨i,z,hi,hzn,hzk⟩:=hT.get hy;subst hzn;have hsn:(Zaw N).take u++[z.n]=(Zaw N).take (u+1):=by rw[List.take_add_one,hny];rfl
  refine PT.know (KR.isSome (s:=⟨ka,kc,ZbA (N.map (·.id))⟩) (Zad 1 rfl) (List.ne_nil_of_length_pos (by show 0< (ZbA _).length;omega))) ?_;rintro⟨sb,so,hA⟩;dsimp only at hA;subst hA;refine Xk<|Xq<|Xb 1<|Xq<|Xg 3<|Bs 2 (Zav (Xi 42 (.tmp 11) (.tmp 13) sb so ((ZbA (N.map (·.id))).length) kc u 1 3 (u:Int) 15 underlying42))<|Bm [(⟨sb,so+u*1,none⟩,vi kk)] (hasC ((Zad (xs:=ZbA (N.map (·.id))) (A:=some ⟨sb,so,none⟩) (k:=kc) (E:=Zm1) (T:=3) 1 rfl).cell rfl (i:=u) (x:=kk) hkk (j:=0) rfl) Zaa)<|Xg 13<|Bl 7 6 [(⟨t,0,none⟩,.map (some mb))] (hasC (ba 2) Zaa)<|Bs 6 (Zav (ZbW 207 (.tmp 21) (.tmp 22) false mb kk (T.map kp) (.pointer none) (vp z.b) 3 208 (some 23) (fun _=>Kr) Kr Kr (fun _=>Kr) (fun _=>Kr) underlying207 Kr (fun _=>Kr) (ZbU (H:=(row nE 147 (.slice qa ((Zaw N).take u).length qc) ((Zaw N).take u)::row Zm1 3 (.slice (sA sb so) (ZbA (N.map (·.id))).length kc) (ZbA (N.map (·.id)))::blk t 210 [.map (some mb)]::Zbl mb (T.map kp)::(Zai T++H))) (i:=3) rfl) (by rw[Zbz hT hsk.nd hi hzk];rfl)))<|Bl 3 3 [(⟨z.b,0,none⟩,vi z.n.id),(⟨z.b,1,none⟩,vi z.n.par),(⟨z.b,2,none⟩,vi z.n.wt),(⟨z.b,3,none⟩,vi z.n.pass),(⟨z.b,4,none⟩,.bool z.n.thr),(⟨z.b,5,none⟩,.bool z.n.rdy)] (hasC (up (up (up (up (Zbe (T:=T) (gMm hi) (j:=0) rfl))))) (hasC (up (up (up (up (Zbe (T:=T) (gMm hi) (j:=1) rfl))))) (hasC (up (up (up (up (Zbe (T:=T) (gMm hi) (j:=2) rfl))))) (hasC (up (up (up (up (Zbe (T:=T) (gMm hi) (j:=3) rfl))))) (hasC (up (up (up (up (Zbe (T:=T) (gMm hi) (j:=4) rfl))))) (hasC (up (up (up (up (Zbe (T:=T) (gMm hi) (j:=5) rfl))))) Zaa))))))<|Bx 2 (Xn 147 [vi z.n.id,vi z.n.par,vi z.n.wt,vi z.n.pass,.bool z.n.thr,.bool z.n.rdy] (some 27) (fun b=> .slice (s0 b) 1 1)) fun b1=>Xh0 ?_ 1 2
  refine Bx 1 (Xf (E:=nE) 63 (.tmp 17) (.tmp 27) qa qc ((Zaw N).take u) [z.n] (.slice (s0 b1) 1 1) 28 underlying63 (Zpj) (Zbr 1 rfl) (by simp only[List.length_take,List.length_cons,List.length_nil];omega)) fun r2=>Be<|Xg 2 (Ce [(0,vp t),(3,.slice r2.1 ((((Zaw N).take u)++[z.n]).length) r2.2),(11,.slice (sA sb so) ((ZbA (N.map (·.id))).length) kc),(12,vi ((ZbA (N.map (·.id))).length:Int)),(13,vi (IntKind.i64.wrap ((u:Int)+1)))] ?_)
  rw[show IntKind.i64.wrap ((u:Int)+1)=((u+1:Nat):Int)by rw[w64 (by omega) (by omega)];rfl];rw[hsn];exact PT.pick 1 rfl<|PT.drop<|gA (k-1) (r2,u+1) (by omega) (by simp only;omega)
 ·have hu:u=N.length:=by have:=of_decide_eq_false h1;omega
  have htk:(Zaw N).take u=Zaw N:=List.take_of_length_le (by rw[Zej];omega);refine Xx 0<|Zao<|Zao<|Zax<|Xq<|Xg 2<|Ce [(2,.slice qa (((Zaw N).take u).length) qc)]<|Xv ?_;rw[htk];refine PT.pick 1 rfl<|PT.drop<|Y0 (.slice qa ((Zaw N).length) qc) (fun w hs=>?_);exact⟨(qa,qc),rfl,hs⟩
theorem Skel.comp {f g:Nr→Nr}(hf:Skel f)(hg:Skel g):Skel (fun x=>g (f x)):=⟨fun x=>by rw[hg.id,hf.id],fun x=>by rw[hg.par,hf.par],fun x=>by rw[hg.thr,hf.thr]⟩
theorem Skel.same :Skel (fun x=>x):=⟨fun _=>rfl,fun _=>rfl,fun _=>rfl⟩
theorem ZbB : ∀ (f:Nat) (N:List Nr) (k:Int),∃g,Skel g∧(∀x,(g x).pass=x.pass∧(g x).wt=x.wt∧(g x).now=x.now∧((g x).rdy=true→x.rdy=true))∧restN f N k=N.map g
  |0,N,k=>⟨fun x=>x,Skel.same,fun x=>⟨rfl,rfl,rfl,id⟩,by simp[restN]⟩
  | f + 1,N,k=>by
    have h0:∃g,Skel g∧(∀x,(g x).pass=x.pass∧(g x).wt=x.wt∧(g x).now=x.now∧((g x).rdy=true→x.rdy=true))∧N=N.map g:=⟨fun x=>x,Skel.same,fun x=>⟨rfl,rfl,rfl,id⟩,by simp⟩
    have h1:∃g,Skel g∧(∀x,(g x).pass=x.pass∧(g x).wt=x.wt∧(g x).now=x.now∧((g x).rdy=true→x.rdy=true))∧upN N k rsF=N.map g:=⟨_,Zbm (k:=k) Zbd,fun x=>by by_cases c:(x.id==k)=true<;>simp[c,rsF],rfl⟩
    rw[restN];split
    · exact h0
    · split
      · exact h0
      · split
        · exact h1
        · obtain⟨g,hg,hg2,hg3⟩:=h1
          rename_i x0 _ _ _ _ _;obtain⟨g',k1,k2,k3⟩:=ZbB f (upN N k rsF) x0.par;refine⟨fun x=>g' (g x),hg.comp k1,fun x=>?_,?_⟩
          · obtain⟨a1,a2,a3,a4⟩:=k2 (g x)
            obtain⟨b1,b2,b3,b4⟩:=hg2 x;exact⟨by rw[a1,b1],by rw[a2,b2],by rw[a3,b3],fun h=>b4 (a4 h)⟩
          · have e:restN f (upN N k fun x=>{x with rdy:=false}) x0.par=_:=k3
            rw[e,hg3,List.map_map];rfl
theorem ZgM : ∀ (f:Nat) (N:List Nr) (k:Int),∃g,Skel g∧(∀x,(g x).wt=x.wt∧(g x).now=x.now)∧Zbk f N k=N.map g
  |0,N,k=>⟨fun x=>x,Skel.same,fun x=>⟨rfl,rfl⟩,by simp[Zbk]⟩
  | f + 1,N,k=>by
    have h0:∃g,Skel g∧(∀x,(g x).wt=x.wt∧(g x).now=x.now)∧N=N.map g:=⟨fun x=>x,Skel.same,fun x=>⟨rfl,rfl⟩,by simp⟩
    rw[Zbk];split
    · exact h0
    · split
      · exact h0
      · split
        · refine⟨_,Zbm (k:=k) (f:=fun x=>{x with rdy:=true}) ⟨fun _=>rfl,fun _=>rfl,fun _=>rfl⟩,fun x=>by by_cases c:(x.id==k)=true<;>simp[c],rfl⟩
        · rename_i x0 _ _ _ p _
          have h1:∃g,Skel g∧(∀x,(g x).wt=x.wt∧(g x).now=x.now)∧upN N k (wkF p.now)=N.map g:=⟨_,Zbm (k:=k) (Zbg p.now),fun x=>by by_cases c:(x.id==k)=true<;>simp[c,wkF],rfl⟩
          obtain⟨g,hg,hg2,hg3⟩:=h1;obtain⟨g',k1,k2,k3⟩:=ZgM f (upN N k (wkF p.now)) x0.par;refine⟨fun x=>g' (g x),hg.comp k1,fun x=>?_,?_⟩
          · rw[(k2 (g x)).1,(hg2 x).1,(k2 (g x)).2,(hg2 x).2];exact⟨rfl,rfl⟩
          · have e:Zbk f (upN N k fun x=>{x with rdy:=true,pass:=mxI x.pass p.now}) x0.par=_:=k3
            rw[e,hg3,List.map_map];rfl
theorem Zgj {N:List Nr}(hs:SK N){k:Int}{x:Nr}(hg:gt N k=some x)(hk:Zcy N k=[]):∀y∈restN 6 N k,y.id=k→y.rdy=false:=by
 intro y hy hyk;have hx:=ZaL hg;rw[restN,hg]at hy;simp only at hy;by_cases c:x.rdy=false
 ·rw[if_pos (.inl c)]at hy
  rw[nd_eq hs.nd hy hx.1 (by rw[hyk,hx.2])];exact c
 ·rw[if_neg (by simp[c,hk])]at hy
  have h1:∀z∈upN N k rsF,z.id=k→z.rdy=false:=by
   intro z hz hzk;obtain⟨v,hv,⟨_,rfl⟩|⟨h,rfl⟩⟩:=Za0.1 hz
   ·rfl
   ·exact absurd hzk h
  split at hy
  ·exact h1 y hy hyk
  ·obtain⟨g,hg1,hg2,hg3⟩:=ZbB 5 (upN N k rsF) x.par
   have e:restN 5 (upN N k fun x=>{x with rdy:=false}) x.par=_:=hg3;rw[e]at hy;obtain⟨z,hz,rfl⟩:=List.mem_map.1 hy;rw[hg1.id]at hyk;cases hr:(g z).rdy with
   |false=>rfl
   |true=>rw[←(hg2 z).2.2.2 hr,h1 z hz hyk]
theorem Zsd (T:List Nd)(k:Int):Zng (T.map kp) k=(T.eraseP (fun x=>x.n.id==k)).map kp:=by
  induction T with
  |nil=>rfl
  | cons a T ih=>
    simp only[Zng,List.map_cons,List.eraseP_cons,kp]at ih ⊢;cases a.n.id==k with
    |true=>rfl
    |false=>simpa [kp] using ih
theorem ZqN {T:List Nd}(k:Int)(hn:((T.map (·.n)).map (·.id)).Nodup):(T.eraseP (fun x=>x.n.id==k)).map (·.n)=(T.map (·.n)).filter (fun x=> !(x.id==k)):=by
  induction T with
  |nil=>rfl
  | cons a T ih=>
    simp only[List.map_cons,List.nodup_cons]at hn;simp only[List.eraseP_cons,List.map_cons,List.filter_cons];by_cases c:a.n.id=k
    · have c':(a.n.id==k)=true:=by simpa using c
      rw[c'];simp only[cond_true,Bool.not_true,Bool.false_eq_true,if_false];symm;rw[List.filter_eq_self];intro y hy;have:y.id≠k:=fun e=>hn.1 (by rw[c,←e];exact List.mem_map.2 ⟨y,hy,rfl⟩)
      simpa using this
    · have c':(a.n.id==k)=false:=by simpa using c
      rw[c'];simp only[cond_false,Bool.not_false,if_true,List.map_cons,ih hn.2]
theorem Zk7 {T:List Nd}{k:Int}{z:Nd}(h:T.find? (fun x=>x.n.id==k)=some z):T.Perm (z::T.eraseP (fun x=>x.n.id==k)):=by
  induction T with
  |nil=>simp at h
  | cons a T ih=>
    simp only[List.find?_cons]at h;simp only[List.eraseP_cons];cases hc:a.n.id==k with
    |true=>rw[hc]at h;cases h;exact .refl _
    |false=>rw[hc]at h;exact((ih h).cons a).trans (.swap _ _ _)
theorem SK.erase {N:List Nr}(hs:SK N){k:Int}(hk:k≠0)(hno:∀x∈N,x.par≠k):SK (N.filter (fun x=> !(x.id==k))):=by
 have hm:∀x,x∈N.filter (fun x=> !(x.id==k))↔x∈N∧x.id≠k:=fun x=>by simp
 refine⟨(List.filter_sublist.map _).nodup hs.nd,?_,fun x hx=>hs.rt x ((hm x).1 hx).1,fun x hx h0=>?_,Nat.le_trans (List.length_filter_le _ _) hs.len,?_⟩
 ·obtain⟨r,hr,h0⟩:=hs.root;exact⟨r,(hm r).2 ⟨hr,by omega⟩,h0⟩
 ·obtain⟨h1,p,hp,h2,h3⟩:=hs.pa x ((hm x).1 hx).1 h0
  exact⟨h1,p,(hm p).2 ⟨hp,fun e=>hno x ((hm x).1 hx).1 (by rw[←h2,e])⟩,h2,h3⟩
 ·obtain⟨rk,h⟩:=hs.rk;exact⟨rk,fun x hx=>h x ((hm x).1 hx).1⟩
theorem OkT.erase {N:List Nr}{T:List Nd}(h:OkT N T)(hs:SK N){k:Int}(hoff:∀y∈N,y.id=k→y.rdy=false):OkT (N.filter (fun x=> !(x.id==k))) (T.eraseP (fun x=>x.n.id==k)):=by
 have hsub:∀x∈T.eraseP (fun x=>x.n.id==k),x∈T:=fun x hx=>List.mem_of_mem_eraseP hx
 refine⟨?_,fun x hx=>h.srt x (hsub x hx),fun x hx p j=>?_⟩
 ·rw[ZqN k (by rw[h.n];exact hs.nd),h.n]
 ·rw[h.mem x (hsub x hx) p j]
  constructor
  ·rintro⟨y,hy,h1,h2,h3,h4⟩
   refine⟨y,?_,h1,h2,h3,h4⟩;rw[List.mem_filter];refine⟨hy,?_⟩;have:y.id≠k:=fun e=>by rw[hoff y hy e]at h2;cases h2
   simpa using this
  ·rintro⟨y,hy,h1⟩
   exact⟨y,(List.mem_filter.1 hy).1,h1⟩
theorem SK.add {N :List Nr} (hs:SK N) {n p:Nr} (hp:p∈N) (hpi:p.id=n.par) (hpt:p.thr=false) (h1:1≤n.id) (hno:∀x∈N,x.id≠n.id) (hd:n.thr=true∨Za2 6 N n.par<4) (hl:N.length<60):SK (N++[n]):=by
  obtain⟨rk,hr⟩:=hs.rk;have hm:∀x,x∈N++[n]↔x∈N∨x=n:=fun x=>by simp
  refine⟨?_,?_,?_,?_,by simp;omega,fun k=>if k=n.id then rk n.par+1 else rk k,fun x hx=>?_⟩
  · rw[List.map_append]
    refine List.nodup_append.2 ⟨hs.nd,by simp,?_⟩;intro a ha b hb;obtain⟨x,hx,rfl⟩:=List.mem_map.1 ha;simp only[List.map_cons,List.map_nil,List.mem_singleton]at hb;subst hb;exact hno x hx
  · obtain⟨r,hr,h0⟩:=hs.root;exact⟨r,(hm r).2 (.inl hr),h0⟩
  · intro x hx h0
    rcases(hm x).1 hx with hx|rfl
    · exact hs.rt x hx h0
    · omega
  · intro x hx h0
    rcases(hm x).1 hx with hx|rfl
    · obtain⟨g1,q,hq,g2,g3⟩:=hs.pa x hx h0
      exact⟨g1,q,(hm q).2 (.inl hq),g2,g3⟩
    · exact⟨h1,p,(hm p).2 (.inl hp),hpi,hpt⟩
  · rcases(hm x).1 hx with hx|rfl
    · simp only[if_neg (hno x hx)]
      have hpar:x.id≠0→x.par≠n.id:=fun h0 e=>by
        obtain⟨_,q,hq,g2,_⟩:=hs.pa x hx h0;exact hno q hq (by rw[g2,e])
      refine⟨(hr x hx).1,fun h0=>?_,(hr x hx).2.2⟩;rw[if_neg (hpar h0)];exact(hr x hx).2.1 h0
    · have hpr:=(hr p hp).2.2.2 hpt
      have hne:x.par≠x.id:=fun e=>hno p hp (by rw[hpi,e])
      simp only[if_true,if_neg hne];rw[hpi]at hpr;refine⟨fun h0=>by omega,fun _=>trivial,by omega,fun ht=>?_⟩;rcases hd with hd|hd
      · rw[ht]at hd;cases hd
      · rw[←hpi,ZjZ hs hr 6 p hp (by have:=(hr p hp).2.2.1;omega),hpi]at hd;omega
theorem OkT.add {N :List Nr} {T:List Nd} (h:OkT N T) (hs:SK N) {n p:Nr} (hp:p∈N) (hpi:p.id=n.par) (h1:1≤n.id) (hno:∀x∈N,x.id≠n.id) (hr:n.rdy=false) (b ib:Nat):OkT (N++[n]) (T++[⟨n,[],b,ib⟩]):=by
  have key:∀g s k,KD (N++[n]) g s k↔KD N g s k:=fun g s k=>by
    constructor
    · rintro⟨y,hy,g1,g2,g3⟩
      rcases List.mem_append.1 hy with hy|hy
      · exact⟨y,hy,g1,g2,g3⟩
      · simp only[List.mem_singleton]at hy;subst hy;rw[hr]at g2;cases g2
    · rintro⟨y,hy,g1⟩;exact⟨y,List.mem_append_left _ hy,g1⟩
  refine⟨by rw[List.map_append,h.n];rfl,fun x hx=>?_,fun x hx s k=>?_⟩
  · rcases List.mem_append.1 hx with hx|hx
    · exact h.srt x hx
    · simp only[List.mem_singleton]at hx;subst hx;exact List.Pairwise.nil
  · show _↔KD (N++[n]) x.n.id s k
    rw[key];rcases List.mem_append.1 hx with hx|hx
    · exact h.mem x hx s k
    · simp only[List.mem_singleton]at hx;subst hx
      constructor
      · intro hh;cases hh
      · rintro⟨y,hy,g1,_⟩
        by_cases c:y.id=0
        · have:=(hs.rt y hy c).1
          simp only at g1;omega
        · obtain⟨_,q,hq,g2,_⟩:=hs.pa y hy c
          exact absurd (by rw[g2,g1]) (hno q hq)
theorem ZbQ {a b:Nr}:ZcI a b=true↔eLt (a.pass,a.id) (b.pass,b.id):=by
 simp only[ZcI,eLt,Bool.or_eq_true,Bool.and_eq_true,decide_eq_true_eq]
theorem ZbX {l:List Nr}:least l=none↔l=[]:=by
  cases l with
  |nil=>simp[least]
  | cons x r=>
    simp only[least];constructor
    · intro h;split at h;cases h;split at h<;>cases h
    · intro h;cases h
theorem least_some : ∀{l:List Nr} {m:Nr},least l=some m→m∈l∧∀z∈l,ZcI z m=false
  | [],m,h=>by simp[least]at h
  | x :: r, m,h=>by
    simp only[least]at h;have irr:∀a:Nr,ZcI a a=false:=fun a=>by
      cases hc:ZcI a a with
      |false=>rfl
      |true=>exact absurd (ZbQ.1 hc) (eLt_irrefl _)
    split at h
    · rename_i hn
      cases h;rw[ZbX.1 hn];exact⟨by simp,fun z hz=>by simp at hz;subst hz;exact irr _⟩
    · rename_i y hy
      obtain⟨h1,h2⟩:=least_some hy;by_cases hl:ZcI y x=true
      · rw[if_pos hl]at h
        have e:=Option.some.inj h;rw[←e];refine⟨.tail _ h1,fun z hz=>?_⟩;rcases List.mem_cons.1 hz with ez|hz
        · rw[ez]
          cases hc:ZcI x y with
          |false=>rfl
          |true=>exact absurd (ZcL (ZbQ.1 hc) (ZbQ.1 hl)) (eLt_irrefl _)
        · exact h2 z hz
      · rw [if_neg hl]at h
        have e:=Option.some.inj h;rw[←e];refine⟨.head _,fun z hz=>?_⟩;rcases List.mem_cons.1 hz with ez|hz
        · rw[ez];exact irr _
        · cases hc:ZcI z x with
          |false=>rfl
          | true=>
            have hz2:=h2 z hz;have hne:¬eLt (z.pass,z.id) (y.pass,y.id):=fun e=>by rw[ZbQ.2 e]at hz2;cases hz2
            rcases eLt_total hne with e|e
            · have e1:=ZbQ.1 hc
              rw[e]at e1;exact absurd (ZbQ.2 e1) hl
            · exact absurd (ZbQ.2 (ZcL e (ZbQ.1 hc))) hl
theorem ZbP {N:List Nr}{k:Int}{y:Nr}:y∈Zcy N k↔y∈N∧y.par=k∧y.rdy=true:=by
 simp only[Zcy,List.mem_filter,Bool.and_eq_true,beq_iff_eq]
theorem Zqv {N :List Nr} {T:List Nd} (h:OkT N T) (hs:SK N) {x:Nd} (hx:x∈T) {e:Int×Int} {r:List (Int×Int)} (hq:x.q=e::r):∃y,least (Zcy N x.n.id)=some y∧y∈N∧y.par=x.n.id∧y.rdy=true∧y.pass=e.1∧y.id=e.2:=by
  obtain⟨p,k⟩:=e;obtain⟨y,hy,h1,h2,h3,h4⟩:=(h.mem x hx p k).1 (by rw[hq];simp);cases hl:least (Zcy N x.n.id)with
  | none=>
    have:y∈Zcy N x.n.id:=ZbP.2 ⟨hy,h1,h2⟩;rw[ZbX.1 hl]at this;cases this
  | some m=>
    obtain⟨hm,hmin⟩:=least_some hl;obtain⟨hm1,hm2,hm3⟩:=ZbP.1 hm;have hmq:(m.pass,m.id)∈x.q:=(h.mem x hx _ _).2 ⟨m,hm1,hm2,hm3,rfl,rfl⟩;have:m=y:=by
      have h5:=hmin y (ZbP.2 ⟨hy,h1,h2⟩);rw[hq]at hmq;rcases List.mem_cons.1 hmq with e|e
      · simp only[Prod.mk.injEq]at e
        exact nd_eq hs.nd hm1 hy (by rw[e.2,h4])
      · have hsr:=h.srt x hx
        rw[hq]at hsr;have h6:=(List.pairwise_cons.1 hsr).1 _ e;rw[←h3,←h4]at h6;rw[ZbQ.2 h6]at h5;cases h5
    subst this;exact⟨m,rfl,hy,h1,h2,h3,h4⟩
theorem ZmI {N:List Nr}{T:List Nd}(h:OkT N T){x:Nd}(hx:x∈T)(hq:x.q=[]):least (Zcy N x.n.id)=none:=by
 rw[ZbX];cases hk:Zcy N x.n.id with
 |nil=>rfl
 |cons a l=>exact absurd hq ((ZrB h hx).2 (by rw[hk];simp))
def PU (N:List Nr):Prop:=∀x∈N,∀p∈N,p.id=x.par→x.pass≤p.now+ZaH x.wt
def PN (N:List Nr):Prop:=∀x∈N,∀p∈N,p.id=x.par→x.rdy=true→p.now≤x.pass
structure DN (rk:Int→Nat)(r:Nat)(N:List Nr):Prop where
 wt:∀x∈N,isW x.wt=true
 now:∀x∈N,0≤x.now∧x.now≤16777216+720720
 low:∀x∈N,r≤rk x.id→x.now≤16777216
 pass:∀x∈N,0≤x.pass∧x.pass≤16777216+1441440
 pu:PU N
 pn:PN N
theorem DN.lb {rk:Int→Nat}{r:Nat}{N:List Nr}(h:DN rk r N):LB N:=⟨h.wt,fun x hx=>by have:=h.pass x hx;omega,fun x hx=>by have:=h.now x hx;omega⟩
theorem WFN.dn {N:List Nr}(h:WFN N)(rk:Int→Nat)(r:Nat):DN rk r N:=
 ⟨h.wt,fun x hx=>by have:=h.now x hx;omega,fun x hx _=>(h.now x hx).2,fun x hx=>by have:=h.pass x hx;omega,fun x hx p hp e=>(h.pn x hx p hp e).1,fun x hx p hp e=>(h.pn x hx p hp e).2⟩
def nwF (P:Int)(x:Nr):Nr:={x with now:=P}
theorem Zcx (P:Int):Skel (nwF P):=⟨fun _=>rfl,fun _=>rfl,fun _=>rfl⟩
theorem DN.step {rk :Int→Nat} {N:List Nr} (hs:SK N) (hr:RK N rk) {x y:Nr} (h:DN rk (rk x.id) N) (hx:x∈N) (hy:y∈N) (hyp:y.par=x.id) (hyr:y.rdy=true) (hmin:∀z∈Zcy N x.id,ZcI z y=false):
    DN rk (rk y.id) (upN (upN N x.id (nwF y.pass)) y.id (psF (y.pass+ZaH y.wt)))∧y.pass≤16777216+720720∧x.now≤y.pass:=by
  have hru:=RK.up hs hr hy hx hyp.symm;have hxl:=h.low x hx (Nat.le_refl _);have hyw:=ZaV (h.wt y hy);have hyu:=h.pu y hy x hx hyp.symm;have hyn:=h.pn y hy x hx hyp.symm hyr;have hyp0:=h.pass y hy;have hx0:=h.now x hx;have hxy:x.id≠y.id:=fun e=>hs.ne_par hy (by rw[hyp,e])
  have key:∀z∈upN (upN N x.id (nwF y.pass)) y.id (psF (y.pass+ZaH y.wt)),∃v∈N,z.id=v.id∧z.par=v.par∧z.wt=v.wt∧z.rdy=v.rdy∧((v=x∧z.now=y.pass)∨(v≠x∧z.now=v.now))∧((v=y∧z.pass=y.pass+ZaH y.wt)∨(v≠y∧z.pass=v.pass)):=by
    intro z hz;obtain⟨u,hu,hz2⟩:=Za0.1 hz;obtain⟨v,hv,hu2⟩:=Za0.1 hu;refine⟨v,hv,?_⟩;have evx:v.id=x.id↔v=x:=⟨fun e=>nd_eq hs.nd hv hx e,fun e=>e▸rfl⟩
    have evy:v.id=y.id↔v=y:=⟨fun e=>nd_eq hs.nd hv hy e,fun e=>e▸rfl⟩
    rcases hu2 with⟨e1,rfl⟩|⟨e1,rfl⟩<;>rcases hz2 with⟨e2,rfl⟩|⟨e2,rfl⟩
    · exact absurd (e1.symm.trans e2) hxy
    · exact⟨rfl,rfl,rfl,rfl,.inl ⟨evx.1 e1,rfl⟩,.inr ⟨fun e=>e2 (evy.2 e),rfl⟩⟩
    · exact⟨rfl,rfl,rfl,rfl,.inr ⟨fun e=>e1 (evx.2 e),rfl⟩,.inl ⟨evy.1 e2,rfl⟩⟩
    · exact⟨rfl,rfl,rfl,rfl,.inr ⟨fun e=>e1 (evx.2 e),rfl⟩,.inr ⟨fun e=>e2 (evy.2 e),rfl⟩⟩
  refine⟨⟨fun z hz=>?_,fun z hz=>?_,fun z hz hzr=>?_,fun z hz=>?_,fun z hz p hp e=>?_,fun z hz p hp e hzr=>?_⟩,by omega,hyn⟩
  · obtain⟨v,hv,_,_,e3,_⟩:=key z hz;rw[e3];exact h.wt v hv
  · obtain⟨v,hv,_,_,_,_,e5,_⟩:=key z hz
    have:=h.now v hv;rcases e5 with⟨_,e5⟩|⟨_,e5⟩<;>omega
  · obtain⟨v,hv,e1,_,_,_,e5,_⟩:=key z hz
    rcases e5 with⟨rfl,e5⟩|⟨_,e5⟩
    · rw[e1]at hzr;omega
    · rw[e5];exact h.low v hv (by rw[←e1];omega)
  · obtain⟨v,hv,_,_,_,_,_,e6⟩:=key z hz
    have:=h.pass v hv;rcases e6 with⟨_,e6⟩|⟨_,e6⟩<;>omega
  · obtain⟨v,hv,e1,e2,e3,_,_,e6⟩:=key z hz
    obtain⟨q,hq,g1,_,_,_,g5,_⟩:=key p hp;have hqv:q.id=v.par:=by rw[←g1,e,e2]
    have hvu:=h.pu v hv q hq hqv;rw[e3];rcases g5 with⟨rfl,g5⟩|⟨gn,g5⟩
    · rcases e6 with⟨rfl,e6⟩|⟨_,e6⟩<;>omega
    · rcases e6 with⟨rfl,e6⟩|⟨_,e6⟩
      · exact absurd (nd_eq hs.nd hq hx (by rw[hqv,hyp])) gn
      · omega
  · obtain⟨v,hv,e1,e2,_,e4,_,e6⟩:=key z hz
    obtain⟨q,hq,g1,_,_,_,g5,_⟩:=key p hp;have hqv:q.id=v.par:=by rw[←g1,e,e2]
    rw[e4]at hzr;have hvn:=h.pn v hv q hq hqv hzr;rcases g5 with⟨rfl,g5⟩|⟨gn,g5⟩
    · rw [g5]
      rcases e6 with⟨rfl,e6⟩|⟨_,e6⟩
      · omega
      · have hl:=hmin v (ZbP.2 ⟨hv,hqv.symm,hzr⟩)
        have:¬v.pass<y.pass:=fun c=>by
          have:ZcI v y=true:=by simp[ZcI,c]
          rw[this]at hl;cases hl
        omega
    · rcases e6 with⟨rfl,e6⟩|⟨_,e6⟩<;>omega
def shG (k P:Int)(x:Nr):Nr:=if x.par==k then {x with pass:=mxI 0 (x.pass-P)}else x
theorem ZbD (k P:Int):Skel (shG k P):=⟨fun x=>by unfold shG;split<;>rfl,fun x=>by unfold shG;split<;>rfl,fun x=>by unfold shG;split<;>rfl⟩
theorem Zc8 {N:List Nr}{g:Nr}(hn:(N.map (·.id)).Nodup)(hg:g∈N)(hb:16777216<g.now):Za6 N g.id=upN (N.map (shG g.id g.now)) g.id (nwF 0):=by
 rw[Za6,ZbY hn hg];simp only;rw[if_neg (by omega)];rfl
theorem Zc7 {N:List Nr}{g:Nr}(hn:(N.map (·.id)).Nodup)(hg:g∈N)(hb:¬16777216<g.now):Za6 N g.id=N:=by
 rw[Za6,ZbY hn hg];simp only;rw[if_pos (by omega)]
theorem Zhj {N:List Nr}{g:Nr}(hs:SK N)(hg:g∈N){z:Nr}(hz:z∈upN (N.map (shG g.id g.now)) g.id (nwF 0)):∃v∈N,z.id=v.id∧z.par=v.par∧z.wt=v.wt∧z.rdy=v.rdy∧z.thr=v.thr∧((v=g∧z.now=0)∨(v≠g∧z.now=v.now))∧((v.par=g.id∧z.pass=mxI 0 (v.pass-g.now))∨(v.par≠g.id∧z.pass=v.pass)):=by
 obtain⟨u,hu,hz2⟩:=Za0.1 hz;obtain⟨v,hv,rfl⟩:=List.mem_map.1 hu;rw[(ZbD _ _).id]at hz2;have e0:((v.par=g.id∧(shG g.id g.now v).pass=mxI 0 (v.pass-g.now))∨(v.par≠g.id∧(shG g.id g.now v).pass=v.pass))∧(shG g.id g.now v).wt=v.wt∧(shG g.id g.now v).rdy=v.rdy∧(shG g.id g.now v).now=v.now:=by
  unfold shG;by_cases c:v.par=g.id<;>simp[c]
 have e1:=ZbD g.id g.now;have evg:v.id=g.id↔v=g:=⟨fun e=>nd_eq hs.nd hv hg e,fun e=>e▸rfl⟩
 refine⟨v,hv,?_⟩;rcases hz2 with⟨e2,rfl⟩|⟨e2,rfl⟩
 ·exact⟨e1.id v,e1.par v,e0.2.1,e0.2.2.1,e1.thr v,.inl ⟨evg.1 e2,rfl⟩,e0.1⟩
 ·exact⟨e1.id v,e1.par v,e0.2.1,e0.2.2.1,e1.thr v,.inr ⟨fun e=>e2 (evg.2 e),e0.2.2.2⟩,e0.1⟩
theorem DN.shift {rk :Int→Nat} {r:Nat} {N:List Nr} (hs:SK N) {g:Nr} (h:DN rk r N) (hg:g∈N):DN rk r (Za6 N g.id):=by
  by_cases hb:16777216<g.now
  · rw [Zc8 hs.nd hg hb]
    have key:=fun {z} hz=>Zhj (z:=z) hs hg hz
    refine⟨fun z hz=>?_,fun z hz=>?_,fun z hz hzr=>?_,fun z hz=>?_,fun z hz p hp e=>?_,fun z hz p hp e hzr=>?_⟩
    · obtain⟨v,hv,_,_,e3,_⟩:=key hz;rw[e3];exact h.wt v hv
    · obtain⟨v,hv,_,_,_,_,_,e5,_⟩:=key hz
      have:=h.now v hv;rcases e5 with⟨_,e5⟩|⟨_,e5⟩<;>omega
    · obtain⟨v,hv,e1,_,_,_,_,e5,_⟩:=key hz
      rcases e5 with⟨_,e5⟩|⟨_,e5⟩
      · omega
      · rw[e5];exact h.low v hv (by rw[←e1];exact hzr)
    · obtain⟨v,hv,_,_,_,_,_,_,e6⟩:=key hz
      have:=h.pass v hv;have h2:=h.now g hg;rcases e6 with⟨_,e6⟩|⟨_,e6⟩
      · rw[e6];unfold mxI;split<;>omega
      · omega
    · obtain⟨v,hv,e1,e2,e3,_,_,_,e6⟩:=key hz
      obtain⟨q,hq,g1,_,_,_,_,g5,_⟩:=key hp;have hqv:q.id=v.par:=by rw[←g1,e,e2]
      have hvu:=h.pu v hv q hq hqv;have hst:=ZaV (h.wt v hv);rw[e3];rcases g5 with⟨rfl,g5⟩|⟨gn,g5⟩
      · rcases e6 with⟨_,e6⟩|⟨e6,_⟩
        · rw[e6,g5];unfold mxI;split<;>omega
        · exact absurd hqv.symm e6
      · rcases e6 with⟨e6,_⟩|⟨_,e6⟩
        · exact absurd (nd_eq hs.nd hq hg (by rw[hqv,e6])) gn
        · omega
    · obtain⟨v,hv,e1,e2,_,e4,_,_,e6⟩:=key hz
      obtain⟨q,hq,g1,_,_,_,_,g5,_⟩:=key hp;have hqv:q.id=v.par:=by rw[←g1,e,e2]
      rw[e4]at hzr;have hvn:=h.pn v hv q hq hqv hzr;rcases g5 with⟨rfl,g5⟩|⟨gn,g5⟩
      · rcases e6 with⟨_,e6⟩|⟨e6,_⟩
        · rw[e6,g5];unfold mxI;split<;>omega
        · exact absurd hqv.symm e6
      · rcases e6 with⟨e6,_⟩|⟨_,e6⟩
        · exact absurd (nd_eq hs.nd hq hg (by rw[hqv,e6])) gn
        · omega
  · rw[Zc7 hs.nd hg hb];exact h
theorem SK.shift {N:List Nr}(hs:SK N){g:Nr}(hg:g∈N):SK (Za6 N g.id):=by
 by_cases hb:16777216<g.now
 ·rw[Zc8 hs.nd hg hb]
  exact(hs.map _ (ZbD _ _)).upN (Zcx 0)
 ·rw[Zc7 hs.nd hg hb];exact hs
theorem Zhi {l:List Nat}{n:Nat}(h:l.Nodup)(hb:∀j∈l,j<n):l.length≤n:=by
 have:=h.length_le_of_subset (l₂:=List.range n) (fun j hj=>List.mem_range.2 (hb j hj));simpa using this
theorem ZrQ {T:List Nd}{j:Nat}{k:Int}{v:Value}(h:(T.map kp)[j]? =some (k,v)):∃z,T[j]? =some z∧k=z.n.id∧v= .pointer (some ⟨z.b,0,none⟩):=by
 rw[List.getElem?_map]at h;obtain⟨z,h1,h2⟩:=Option.map_eq_some_iff.1 h;simp only[kp,Prod.mk.injEq]at h2;exact⟨z,h1,h2.1.symm,h2.2.symm⟩
theorem ZoG {N:List Nr}{T:List Nd}(hT:OkT N T)(H:List SP)(t mb:Nat)(g:Int):US 206 #[vp t,vi g] (blk t 210 [.map (some mb)]::Zbl mb (T.map kp)::(Zai T++H)) (.bool (N.any (fun x=>x.par==g))):=by
 refine eG func206 23 ?_;refine Xq<|Xg 1<|Be<|Xq<|Xq<|Xg 5<|Bl 1 4 [(⟨t,0,none⟩,.map (some mb))] (hasC (ba 0) Zaa)<|Xh0 ?_ 1 1;refine Bx 0 (Zpg 207 (.tmp 10) mb (T.map kp) 3 208 (some 11) (fun _=>Kr) Kr Kr (fun _=>Kr) underlying207) fun it1=>endR<|Xb 0 (Xp [(1,vi g),(4,.bool false),(11,vp it1)] ?_)
 refine ZbV (fun(dn:List Nat)=> [(1,vi g),(4,.bool false),(11,vp it1)]) (fun(dn:List Nat)=>(Zit it1 mb (T.map kp) dn::blk t 210 [.map (some mb)]::(Zai T++H))) (fun k (dn:List Nat)=>k+dn.length=T.length∧dn.Nodup∧∀j∈dn,∃z,T[j]? =some z∧z.n.par≠g) T.length [] Kr ⟨rfl,List.nodup_nil,fun _ h=>by cases h⟩ ?_;rintro k dn ⟨hk,hnd,hno⟩;refine Xq (Xg 2 ?_);refine ZrJ (z:=1) (.tmp 11) it1 mb (T.map kp) dn (some 12) (fun _=>Kr) Kr Kr (fun _=>Kr) (fun h0=>?_) (fun j kk vv hj hnj=>?_)
 ·refine Be<|Xq<|cF<|Xx 0<|Zao<|Zao<|Zax<|Xq<|Xg 1<|Be<|Xv ?_;refine PT.rngEnd ?_;refine PT.pick 1 rfl<|Y0 (.bool false) (fun w hs=>?_);exact⟨(),by rw[List.any_eq_false.2 fun y hy=>by obtain⟨i,z,hi,hz⟩:=hT.of_n hy;obtain⟨z',h1,h2⟩:=hno i (h0 i (by rw[List.length_map];exact(gSs hi).1));rw[hi]at h1;cases h1;rw[←hz];simpa using h2],hs⟩
 ·obtain⟨z,hz,rfl,rfl⟩:=ZrQ hj;refine Be<|Xq<|cT<|Xk<|Xb 1<|Xq<|Xg 3<|Bs 2 (Zav (Zpx (H:=(Zit it1 mb (T.map kp) (dn++[j])::blk t 210 [.map (some mb)]::(Zai T++H))) (.tmp 11) it1 mb (T.map kp) dn j z.n.id (vp z.b) 0 (some 14) (fun _=>Kr) Kr Kr (fun _=>Kr) rfl hj))<|Be<|Xq<|Xg 7<|Bm [(⟨z.b,1,none⟩,vi z.n.par)] (hasC (up (up (Zbe (T:=T) (gMm hz) (j:=1) rfl))) Zaa)<|Xc (z.n.par==g) (fun h1=>?_) (fun h1=>?_)
  ·refine Xq<|Xg 1<|Be<|Xv (Zae (Zab (Zae (Zab ?_))));refine PT.rngEnd ?_;refine PT.pick 1 rfl<|Y0 (.bool true) (fun w hs=>?_);exact⟨(),by rw[List.any_eq_true.2 ⟨z.n,hT.mem_n (gMm hz),h1⟩],hs⟩
  ·refine Xk ?_;have hl:=Zhi (l:=dn++[j]) (n:=T.length) (List.nodup_append.2 ⟨hnd,by simp,by intro a ha b hb;simp at hb;subst hb;exact fun e=>hnj (e▸ha)⟩) (by intro a ha;rcases List.mem_append.1 ha with ha|ha;(obtain⟨z',h1,_⟩:=hno a ha;exact(gSs h1).1);(simp at ha;subst ha;exact(gSs hz).1));rw[List.length_append,List.length_singleton]at hl;exact gA (k-1) (dn++[j]) (by omega) ⟨by rw[List.length_append,List.length_singleton];omega,List.nodup_append.2 ⟨hnd,by simp,by intro a ha b hb;simp at hb;subst hb;exact fun e=>hnj (e▸ha)⟩,by intro a ha;rcases List.mem_append.1 ha with ha|ha;exact hno a ha;(simp at ha;subst ha;exact⟨z,hz,by simpa using h1⟩)⟩
theorem ZjJ {N:List Nr}{k:Int}(h:N.any (fun x=>x.par==k)=false):Zcy N k=[]∧∀x∈N,x.par≠k:=by
 have h1:∀x∈N,x.par≠k:=fun x hx=>by simpa using List.any_eq_false.1 h x hx
 refine⟨?_,h1⟩;rw[Zcy,List.filter_eq_nil_iff];intro x hx;simp[h1 x hx]
theorem ZiF {N:List Nr}{T:List Nd}(hT:OkT N T)(hsk:SK N)(hlb:LB N)(H:List SP)(t mb:Nat)(id:Int):U1 181 #[vp t,vi id] (blk t 210 [.map (some mb)]::Zbl mb (T.map kp)::(Zai T++H)) (ι:={T':List Nd//OkT (Zap N id).2 T'}) (fun _=>Zal (Zap N id).1) fun T'=>blk t 210 [.map (some mb)]::Zbl mb (T'.1.map kp)::(Zai T'.1++H):=by
 refine eG func181 37 ?_;cases hg:gt N id with
 |none=>
  refine Xq<|Xg 1<|Be<|Xq<|Xg 11<|Bl 6 5 [(⟨t,0,none⟩,.map (some mb))] (hasC (ba 0) Zaa)<|Bs 5 (Zav (ZbW 207 (.tmp 11) (.tmp 12) true mb id (T.map kp) (.pointer none) (.tuple #[.pointer none,.bool false]) 3 208 (some 13) (fun _=>Kr) Kr Kr (fun _=>Kr) (fun _=>Kr) underlying207 Kr (fun _=>Kr) (ZbU (H:=(blk t 210 [.map (some mb)]::Zbl mb (T.map kp)::(Zai T++H))) (i:=1) rfl) (by rw[lk_none hT hg];rfl)))<|Be<|Xq<|Xb 0<|Xq<|Xg 7<|Be<|cT<|Xq<|Xg 2<|Be<|Xv (Zae (Zab ?_));have hrn:Zap N id=(13,N):=by rw[Zap,if_pos (.inl (by rw[hg];rfl))]
  refine Y0 (.iface 126 (vi 13)) (fun w hs=>?_);exact⟨⟨T,by rw[hrn];exact hT⟩,by show _=Ending.returned (Zal (Zap N id).1);rw[hrn];rfl,hs⟩
 | some y=>
  obtain⟨i,z,hi,hzn,hzk⟩:=hT.get hg;refine Xq<|Xg 1<|Be<|Xq<|Xg 11<|Bl 6 5 [(⟨t,0,none⟩,.map (some mb))] (hasC (ba 0) Zaa)<|Bs 5 (Zav (ZbW 207 (.tmp 11) (.tmp 12) true mb id (T.map kp) (.pointer none) (.tuple #[vp z.b,.bool true]) 3 208 (some 13) (fun _=>Kr) Kr Kr (fun _=>Kr) (fun _=>Kr) underlying207 Kr (fun _=>Kr) (ZbU (H:=(blk t 210 [.map (some mb)]::Zbl mb (T.map kp)::(Zai T++H))) (i:=1) rfl) (by rw[Zbz hT hsk.nd hi hzk];rfl)))<|Be<|Xq<|Xb 0<|Xq<|Xg 7<|Be<|Xc (id==0) (fun h1=>?_) (fun h1=>?_)
  ·have h0:id=0:=by simpa using h1
   have hrn:Zap N id=(13,N):=by rw[Zap,if_pos (.inr h0)]
   exact Xq<|Xg 2<|Be<|Xv (Zae (Zab (Y0 (.iface 126 (vi 13)) fun w hs=>⟨⟨T,by rw[hrn];exact hT⟩,by show _=Ending.returned (Zal (Zap N id).1);rw[hrn];rfl,hs⟩)))
  ·have h0:¬id=0:=by simpa using h1
   have hn0:¬((gt N id).isNone=true∨id=0):=by rw[hg];simpa using h0
   refine Xq<|Xg 4<|Br 2 2<|Bs 1 (Xa (some 27) _ (ZoG hT H t mb id))<|Be<|Xc (N.any (fun x=>x.par==id)) (fun h2=>?_) (fun h2=>?_)
   ·have hrn:Zap N id=(10,N):=by rw[Zap,if_neg hn0,if_pos h2]
    exact Xq<|Xg 2<|Be<|Xv (Zae (Zab (Y0 (.iface 126 (vi 10)) fun w hs=>⟨⟨T,by rw[hrn];exact hT⟩,by show _=Ending.returned (Zal (Zap N id).1);rw[hrn];rfl,hs⟩)))
   ·have hrn:Zap N id=(0,(restN 6 N id).filter (fun x=> !(x.id==id))):=by rw[Zap,if_neg hn0,if_neg (by rw[h2];simp)]
    obtain⟨hkd,hnp⟩:=ZjJ h2;refine Xk<|Xq<|Xg 3<|Br 1 2<|Bx 0 (Xa (some 31) _ (ZfP hT hsk hlb hi H t mb)) (fun(T':{T':List Nd//OkT (restN 6 N z.n.id) T'∧SameT T T'})=>?_);obtain⟨T1,hT1,hsm⟩:=T';rw[hzk]at hT1;obtain⟨g,hg1,hg2,hg3⟩:=ZbB 6 N id;have hs1:SK (restN 6 N id):=hg3▸hsk.map g hg1;have hoff:=Zgj hsk hg hkd;obtain⟨z1,hz1,hz1k,_⟩:=hsm.at hi;obtain⟨v,hv⟩:∃v,T1.find? (fun x=>x.n.id==id)=some v:=Option.isSome_iff_exists.1 (List.find?_isSome.2 ⟨z1,gMm hz1,by simp[hz1k,hzk]⟩);refine PT.sat (fun _ hs=>Sat.nds (Zk7 hv) hs) ?_;refine endR<|Xq<|Xg 6<|Bl 1 5 [(⟨t,0,none⟩,.map (some mb))] (hasC (ba 0) Zaa)<|Xh0 ?_ 1 1;exact Bs 0 (delS 207 3 208 (.tmp 35) (.tmp 36) mb id (T1.map kp) #[207,3] rfl (fun _=>Kr) Kr Kr (fun _=>Kr) (fun _=>Kr) underlying207 Kr)<|endR<|Xq<|Xg 1<|Be<|Xv (Y0 (.nilIface) fun w hs=>⟨⟨T1.eraseP (fun x=>x.n.id==id),by rw[hrn];exact hT1.erase hs1 hoff⟩,by show _=Ending.returned (Zal (Zap N id).1);rw[hrn];rfl,by show Sat _ (blk t 210 [.map (some mb)]::Zbl mb ((T1.eraseP (fun x=>x.n.id==id)).map kp)::(Zai (T1.eraseP (fun x=>x.n.id==id))++H));rw[←Zsd];exact((((hs.pick 2 rfl).tail).pick 2 rfl).tail).pick 1 rfl⟩)
theorem ZeV {p n f t:Int}(hp:0≤p)(hn:0≤n∧n≤16777216)(hf:isW f=true)(ht:isW t=true)(hpn:p≤n+ZaH f):0≤scaleN p n f t∧scaleN p n f t≤n+ZaH t∧(n≤p→n≤scaleN p n f t):=by
 have h1:=ZaV hf;have h2:=ZaV ht;unfold scaleN;split
 ·omega
 ·rename_i hc
  have hc:¬p≤n:=fun h=>hc (.inl h)
  have hm:0≤(p-n)*ZaH t:=Int.mul_nonneg (by omega) (by omega);have hd:=Zie hm h1.1;have hle:((p-n)*ZaH t).tdiv (ZaH f)≤ZaH t:=by
   rw[Int.tdiv_eq_ediv_of_nonneg hm];refine Int.ediv_le_of_le_mul h1.1 ?_;rw[Int.mul_comm (ZaH t)];exact Int.mul_le_mul_of_nonneg_right (by omega) (by omega)
  omega
def wtF (W:Int)(x:Nr):Nr:={x with wt:=W}
theorem Zjk (W:Int):Skel (wtF W):=⟨fun _=>rfl,fun _=>rfl,fun _=>rfl⟩
theorem Zh8 {N:List Nr}{T:List Nd}(hT:OkT N T)(hw:WFN N)(H:List SP)(t mb:Nat)(id W:Int):U1 185 #[vp t,vi id,vi W] (blk t 210 [.map (some mb)]::Zbl mb (T.map kp)::(Zai T++H)) (ι:={T':List Nd//OkT (Zaq N id W).2 T'∧SameT T T'}) (fun _=>Zal (Zaq N id W).1) fun T'=>blk t 210 [.map (some mb)]::Zbl mb (T'.1.map kp)::(Zai T'.1++H):=by
 have hsk:=hw.sk;have hlb:=hw.lb;refine eG func185 66 ?_;cases hg:gt N id with
 | none=>
  refine Xq<|Xg 1<|Be<|Xq<|Xg 11<|Bl 6 5 [(⟨t,0,none⟩,.map (some mb))] (hasC (ba 0) Zaa)<|Bs 5 (Zav (ZbW 207 (.tmp 14) (.tmp 15) true mb id (T.map kp) (.pointer none) (.tuple #[.pointer none,.bool false]) 3 208 (some 16) (fun _=>Kr) Kr Kr (fun _=>Kr) (fun _=>Kr) underlying207 Kr (fun _=>Kr) (ZbU (H:=(blk t 210 [.map (some mb)]::Zbl mb (T.map kp)::(Zai T++H))) (i:=1) rfl) (by rw[lk_none hT hg];rfl)))<|Be<|Xq<|Xb 0<|Xq<|Xg 4<|Br 3 1<|Bs 2 (Xa (some 21) _ (Zbx _ W))<|Be<|Xc (!(isW W)) (fun h1=>?_) (fun h1=>?_)
  ·have hwf:isW W=false:=by simpa using h1
   have hrn:Zaq N id W=(10,N):=by rw[Zaq,if_pos hwf]
   exact Xq<|Xg 2<|Be<|Xv (Zae (Zab (Y0 (.iface 126 (vi 10)) fun w hs=>⟨⟨T,by rw[hrn];exact hT,SameT.refl T⟩,by show _=Ending.returned (Zal (Zaq N id W).1);rw[hrn];rfl,hs⟩)))
  ·have hwf:¬isW W=false:=by simpa using h1
   have hrn:Zaq N id W=(13,N):=by rw[Zaq,if_neg hwf,hg]
   exact Xq<|Xg 7<|Be<|cT<|Xq<|Xg 2<|Be<|Xv (Zae (Zab (Y0 (.iface 126 (vi 13)) fun w hs=>⟨⟨T,by rw[hrn];exact hT,SameT.refl T⟩,by show _=Ending.returned (Zal (Zaq N id W).1);rw[hrn];rfl,hs⟩)))
 | some y=>
  obtain⟨i,z,hi,hzn,hzk⟩:=hT.get hg;have hm:=gMm hi;refine Xq<|Xg 1<|Be<|Xq<|Xg 11<|Bl 6 5 [(⟨t,0,none⟩,.map (some mb))] (hasC (ba 0) Zaa)<|Bs 5 (Zav (ZbW 207 (.tmp 14) (.tmp 15) true mb id (T.map kp) (.pointer none) (.tuple #[vp z.b,.bool true]) 3 208 (some 16) (fun _=>Kr) Kr Kr (fun _=>Kr) (fun _=>Kr) underlying207 Kr (fun _=>Kr) (ZbU (H:=(blk t 210 [.map (some mb)]::Zbl mb (T.map kp)::(Zai T++H))) (i:=1) rfl) (by rw[Zbz hT hsk.nd hi hzk];rfl)))<|Be<|Xq<|Xb 0<|Xq<|Xg 4<|Br 3 1<|Bs 2 (Xa (some 21) _ (Zbx _ W))<|Be<|Xc (!(isW W)) (fun h1=>?_) (fun h1=>?_)
  ·have hwf:isW W=false:=by simpa using h1
   have hrn:Zaq N id W=(10,N):=by rw[Zaq,if_pos hwf]
   exact Xq<|Xg 2<|Be<|Xv (Zae (Zab (Y0 (.iface 126 (vi 10)) fun w hs=>⟨⟨T,by rw[hrn];exact hT,SameT.refl T⟩,by show _=Ending.returned (Zal (Zaq N id W).1);rw[hrn];rfl,hs⟩)))
  ·have hwf:¬isW W=false:=by simpa using h1
   have hwt:isW W=true:=by simpa using hwf
   refine Xq<|Xg 7<|Be<|Xc (id==0) (fun h2=>?_) (fun h2=>?_)
   ·have h0:id=0:=by simpa using h2
    have hrn:Zaq N id W=(13,N):=by rw[Zaq,if_neg hwf,hg];simp only[if_pos h0]
    exact Xq<|Xg 2<|Be<|Xv (Zae (Zab (Y0 (.iface 126 (vi 13)) fun w hs=>⟨⟨T,by rw[hrn];exact hT,SameT.refl T⟩,by show _=Ending.returned (Zal (Zaq N id W).1);rw[hrn];rfl,hs⟩)))
   ·have h0:¬id=0:=by simpa using h2
    have hyN:=ZaL hg;obtain⟨_,p0,hp0,hp0i,_⟩:=hsk.pa y hyN.1 (by rw[hyN.2];exact h0);have hgp:gt N z.n.par=some p0:=by rw[hzn,←hp0i];exact ZbY hsk.nd hp0
    obtain⟨j,p,hj,hpn,hpk⟩:=hT.get hgp;have hij:i≠j:=fun e=>by subst e;rw[hi]at hj;cases hj;exact hsk.ne_par (hT.mem_n hm) hpk
    obtain⟨R,hR,hR2⟩:=Zoe hi hj hij;have hpm:=hT.mem_n (gMm hj);have hzm:=hT.mem_n hm;have hb1:=hw.pass z.n hzm;have hb2:=hw.now p.n hpm;have hb3:=hw.pn z.n hzm p.n hpm hpk;have hsc:=ZeV hb1.1 hb2 (hw.wt z.n hzm) hwt hb3.1;have hst:=ZaV hwt;have hN1:OkT (upN N z.n.id (wtF W)) (T.set i {z with n:=wtF W z.n}):=hT.one hsk.nd hi (Zjk W) (.inr ⟨rfl,.inl rfl⟩);have hs1:SK (upN N z.n.id (wtF W)):=hsk.upN (Zjk W);have hl1:LB (upN N z.n.id (wtF W)):=hlb.ups hsk.nd hzm hwt (hlb.pass z.n hzm) (hlb.now z.n hzm);have hi1:(T.set i {z with n:=wtF W z.n})[i]? =some {z with n:=wtF W z.n}:=by rw[List.getElem?_set_self (gSs hi).1]
    have hg1:gt (upN N z.n.id (wtF W)) z.n.par=some p0:=by rw[Zpu (f:=wtF W) (fun _=>rfl),if_neg (fun e=>hsk.ne_par hzm e.symm),hgp]
    refine PT.open2 (hR) ?_;refine Xk<|Xq<|Xy0 0 [] 26<|At' [0,1,2,3,4,5,6,7,8,9,10,11,12,13,18,19,20,21,22,23] [(⟨z.b,3,none⟩,vi z.n.pass),(⟨t,0,none⟩,.map (some mb)),(⟨z.b,1,none⟩,vi z.n.par),(⟨z.b,2,none⟩,vi z.n.wt)] (hasC (ba 2) (hasC (ba 0) (hasC (ba 2) (hasC (ba 2) Zaa))))<|Xu 14 (ZbW 207 (.tmp 40) (.tmp 45) false mb z.n.par (T.map kp) (.pointer none) (vp p.b) 3 208 (some 46) (fun _=>Kr) Kr Kr (fun _=>Kr) (fun _=>Kr) underlying207 Kr (fun _=>Kr) (ZbU (H:=(blk t 210 [.map (some mb)]::Zbl mb (T.map kp)::blk z.b 213 [.int .i64 z.n.id,.int .i64 z.n.par,.int .i64 z.n.wt,.int .i64 z.n.pass,.bool z.n.thr,.bool z.n.rdy,.int .i64 z.n.now,vp z.ib]::Zco z.ib 60 z.q::blk p.b 213 [.int .i64 p.n.id,.int .i64 p.n.par,.int .i64 p.n.wt,.int .i64 p.n.pass,.bool p.n.thr,.bool p.n.rdy,.int .i64 p.n.now,vp p.ib]::Zco p.ib 60 p.q::(Zai R++H))) (i:=1) rfl) (by rw[Zbz hT hsk.nd hj hpk];rfl))<|At' [15,16,17] [(⟨p.b,6,none⟩,vi p.n.now)] (hasC (ba 4) Zaa)<|Yo 24 (Xa (some 56) _ (Zkl _ z.n.pass p.n.now z.n.wt W ⟨hb1.1,by omega⟩ ⟨hb2.1,by omega⟩ (hw.wt z.n hzm) hwt)) ?_;have hR3:(T.set i {z with n:=wtF W z.n}).Perm ({z with n:=wtF W z.n}::p::R):=by have:=hR2 {z with n:=wtF W z.n} p;rw[ZeG (by rw[List.getElem?_set_ne hij];exact hj)]at this;exact this
    refine At' [25] [] Zaa<|Xd<|Xq<|Xg 6<|Cr 1 5 [(0,vp t),(6,.nilIface),(7,vp z.b),(9,vi (scaleN z.n.pass p.n.now z.n.wt W)),(58,vi W),(61,.pointer (sA z.b 2))]<|Xh0 ?_ 2 1;refine Bs 0 (Xz [(2,vi W)])<|endR<|PT.pick 0 rfl<|PT.pick 2 rfl<|PT.pick 2 rfl ?_;refine PT.close2 ({z with n:=wtF W z.n}) p (hR3) ?_;have hsm:SameT T (T.set i {z with n:=wtF W z.n}):=SameT.set hi ⟨rfl,rfl,rfl⟩;rw[←hsm.kp];have hrn:Zaq N id W=(0,upN (upN N z.n.id (wtF W)) z.n.id (psF (scaleN z.n.pass p.n.now z.n.wt W))):=by
     rw[Zaq,if_neg hwf,hg];simp only[if_neg h0];rw[←hzn,hgp,←hpn,hzk];refine Prod.ext rfl ?_;simp only[upN,List.map_map];refine List.map_congr_left fun x hx=>?_
     simp only[Function.comp];by_cases c:x.id=id
     ·have:=nd_eq hsk.nd hx hyN.1 (by rw[c,hyN.2]);subst this
      simp[c,hzn,psF,wtF]
     ·simp[c]
    exact Xq<|Xg 5<|Br 2 3<|Bx 1 (Xa (some 65) _ (ZgT hN1 hs1 hl1 hi1 hg1 (P:=scaleN z.n.pass p.n.now z.n.wt W) ⟨hsc.1,by omega⟩ H t mb)) fun(T':{T':List Nd//OkT (upN (upN N z.n.id (wtF W)) z.n.id (psF (scaleN z.n.pass p.n.now z.n.wt W))) T'∧SameT (T.set i {z with n:=wtF W z.n}) T'∧SK (upN (upN N z.n.id (wtF W)) z.n.id (psF (scaleN z.n.pass p.n.now z.n.wt W)))∧LB (upN (upN N z.n.id (wtF W)) z.n.id (psF (scaleN z.n.pass p.n.now z.n.wt W)))})=>Be<|Xv (Y0 (.nilIface) fun w hs=>⟨⟨T'.1,by rw[hrn];exact T'.2.1,hsm.trans T'.2.2.1⟩,by show _=Ending.returned (Zal (Zaq N id W).1);rw[hrn];rfl,hs⟩)
structure WB (N:List Nr):Prop where
 sk:SK N
 wt:∀x∈N,isW x.wt=true
 now:∀x∈N,0≤x.now∧x.now≤16777216
 pass:∀x∈N,0≤x.pass∧x.pass≤16777216+1441440
 pn:∀x∈N,∀p∈N,p.id=x.par→x.pass≤p.now+ZaH x.wt∧(x.rdy=true→p.now≤x.pass)
def KX (N:List Nr)(g:Int):Prop:=∃y∈N,y.par=g∧y.rdy=true
def RDx (N:List Nr)(k:Int):Prop:=∀x∈N,x.thr=false→x.id≠k→(x.rdy=true↔KX N x.id)
theorem WFN.wb {N:List Nr}(h:WFN N):WB N:=⟨h.sk,h.wt,h.now,h.pass,h.pn⟩
theorem WFN.rdx {N:List Nr}(h:WFN N)(k:Int):RDx N k:=fun x hx ht _=>h.rd x hx ht
theorem WB.wf {N:List Nr}(h:WB N)(hr:∀x∈N,x.thr=false→(x.rdy=true↔KX N x.id)):WFN N:=⟨h.sk,h.wt,h.now,h.pass,h.pn,hr⟩
theorem Zem {N:List Nr}{g:Int}:Zcy N g≠ []↔KX N g:=by
 rw[ZmS];constructor
 ·rintro⟨p,k,y,hy,h1,h2,_⟩;exact⟨y,hy,h1,h2⟩
 ·rintro⟨y,hy,h1,h2⟩;exact⟨y.pass,y.id,y,hy,h1,h2,rfl,rfl⟩
theorem Zq3 {N:List Nr}(hs:SK N){x:Nr}(hx:x∈N){f:Nr→Nr}(hf:Skel f){g:Int}:KX (upN N x.id f) g↔(∃y∈N,y.id≠x.id∧y.par=g∧y.rdy=true)∨(x.par=g∧(f x).rdy=true):=by
 constructor
 ·rintro⟨z,hz,h1,h2⟩
  obtain⟨y,hy,⟨e,rfl⟩|⟨e,rfl⟩⟩:=Za0.1 hz
  ·have:=nd_eq hs.nd hy hx e;subst this
   rw[hf.par]at h1;exact .inr ⟨h1,h2⟩
  ·exact .inl ⟨_,hy,e,h1,h2⟩
 ·rintro(⟨y,hy,e,h1,h2⟩|⟨h1,h2⟩)
  ·exact⟨y,Za0.2 ⟨y,hy,.inr ⟨e,rfl⟩⟩,h1,h2⟩
  ·exact⟨f x,Za0.2 ⟨x,hx,.inl ⟨rfl,rfl⟩⟩,by rw[hf.par,h1],h2⟩
theorem ZhX {N:List Nr}(hs:SK N){x:Nr}(hx:x∈N){f:Nr→Nr}(hf:Skel f){g:Int}(hg:x.par≠g):KX (upN N x.id f) g↔KX N g:=by
 rw[Zq3 hs hx hf];constructor
 ·rintro(⟨y,hy,_,h1,h2⟩|⟨h1,_⟩)
  ·exact⟨y,hy,h1,h2⟩
  ·exact absurd h1 hg
 ·rintro⟨y,hy,h1,h2⟩
  refine .inl ⟨y,hy,fun e=>?_,h1,h2⟩;have:=nd_eq hs.nd hy hx e;subst this;exact hg h1
theorem WB.up {N:List Nr}(h:WB N){x:Nr}(hx:x∈N){f:Nr→Nr}(hf:Skel f)(hw:isW (f x).wt=true)(hn:(f x).now=x.now)(hp:0≤(f x).pass∧(f x).pass≤16777216+1441440)
  (hpn:∀p∈N,p.id=x.par→(f x).pass≤p.now+ZaH (f x).wt∧((f x).rdy=true→p.now≤(f x).pass)):WB (upN N x.id f):=by
 have hs:=h.sk;have key:∀z∈upN N x.id f,z.now=z.now∧((z=f x)∨(z∈N∧z.id≠x.id)):=fun z hz=>by
  obtain⟨y,hy,⟨e,rfl⟩|⟨e,rfl⟩⟩:=Za0.1 hz
  ·have:=nd_eq hs.nd hy hx e;subst this
   exact⟨rfl,.inl rfl⟩
  ·exact⟨rfl,.inr ⟨hy,e⟩⟩
 have parent:∀p∈upN N x.id f,∃q∈N,q.id=p.id∧q.now=p.now:=fun p hp=>by
  rcases(key p hp).2 with rfl|⟨hp,_⟩
  ·exact⟨x,hx,(hf.id x).symm,hn.symm⟩
  ·exact⟨p,hp,rfl,rfl⟩
 refine⟨hs.upN hf,fun z hz=>?_,fun z hz=>?_,fun z hz=>?_,fun z hz p hp' e=>?_⟩
 ·rcases(key z hz).2 with rfl|⟨hz,_⟩
  ·exact hw
  ·exact h.wt z hz
 ·rcases(key z hz).2 with rfl|⟨hz,_⟩
  ·rw[hn];exact h.now x hx
  ·exact h.now z hz
 ·rcases(key z hz).2 with rfl|⟨hz,_⟩
  ·exact hp
  ·exact h.pass z hz
 ·obtain⟨q,hq,hqi,hqn⟩:=parent p hp'
  rw[←hqn];rcases(key z hz).2 with rfl|⟨hz,_⟩
  ·exact hpn q hq (by rw[hqi,e,hf.par])
  ·exact h.pn z hz q hq (by rw[hqi,e])
theorem skF {r:Bool}:Skel (fun x:Nr=>{x with rdy:=r}):=⟨fun _=>rfl,fun _=>rfl,fun _=>rfl⟩
theorem ZlB {rk : Int→Nat}:∀(f:Nat) {N:List Nr} {x:Nr},WB N→RK N rk→x∈N→rk x.id≤f→RDx N x.id→(x.thr=true∨KX N x.id)→WFN (Zbk f N x.id)
  |0,N,x,h,hr,hx,hf,_,_=>by have:=hr.pos hx;omega
  | f + 1, N, x,h,hr,hx,hf,hrd,hk=>by
    have hs:=h.sk;rw[Zbk,ZbY hs.nd hx];simp only;by_cases c:x.rdy=true
    · rw[if_pos c]
      refine h.wf fun z hz ht=>?_
      by_cases e:z.id=x.id
      · have:=nd_eq hs.nd hz hx e;subst this
        rcases hk with hk|hk
        · rw[ht]at hk;cases hk
        · exact⟨fun _=>hk,fun _=>c⟩
      · exact hrd z hz ht e
    · rw [if_neg c]
      have c':x.rdy=false:=by simpa using c
      cases hg:gt N x.par with
      | none=>
        simp only;have hnp:=ZaX.1 hg;refine(h.up hx (f:=fun x=>{x with rdy:=true}) skF (h.wt x hx) rfl (h.pass x hx) (fun p hp e=>absurd e (hnp p hp))).wf fun z hz ht=>?_
        obtain⟨y,hy,⟨e,rfl⟩|⟨e,rfl⟩⟩:=Za0.1 hz
        · have:=nd_eq hs.nd hy hx e;subst this
          show true=true↔KX _ y.id;rw[ZhX hs hy skF (hs.ne_par hy).symm];rcases hk with hk|hk
          · have ht':y.thr=false:=ht
            rw[hk]at ht';cases ht'
          · exact⟨fun _=>hk,fun _=>rfl⟩
        · rw[ZhX hs hx skF (fun e'=>hnp z hy e'.symm)]
          exact hrd z hy ht e
      | some p=>
        simp only;obtain⟨hp,hpi⟩:=ZaL hg;have h1:=h.pass x hx;have h2:=h.pn x hx p hp hpi;have h3:=h.now p hp;have h4:=ZaV (h.wt x hx);have hmx:mxI x.pass p.now=x.pass∨mxI x.pass p.now=p.now:=by unfold mxI;split<;>simp
        have hmg:x.pass≤mxI x.pass p.now∧p.now≤mxI x.pass p.now:=by unfold mxI;split<;>omega
        have hb:WB (upN N x.id (wkF p.now)):=h.up hx (Zbg _) (h.wt x hx) rfl (by show 0≤mxI x.pass p.now∧mxI x.pass p.now≤_;rcases hmx with e|e<;>rw[e]<;>omega)
          (fun q hq e=>by
            have:=nd_eq hs.nd hq hp (by rw[e,hpi]);subst this;show mxI x.pass q.now≤q.now+ZaH x.wt∧(true=true→q.now≤mxI x.pass q.now);exact⟨by rcases hmx with e|e<;>rw[e]<;>omega,fun _=>hmg.2⟩)
        have hpx:p.id≠x.id:=fun e=>hs.ne_par hx (by rw[←hpi,e])
        have hp':p∈upN N x.id (wkF p.now):=Za0.2 ⟨p,hp,.inr ⟨hpx,rfl⟩⟩;have hu:=RK.up hs hr hx hp hpi;have hrec:=ZlB f (x:=p) hb (hr.ups (Zbg p.now)) hp' (by omega) (fun z hz ht e=>by
          obtain⟨y,hy,⟨e2,rfl⟩|⟨e2,rfl⟩⟩:=Za0.1 hz
          · have:=nd_eq hs.nd hy hx e2;subst this
            show true=true↔KX _ y.id;rw[ZhX hs hy (Zbg _) (hs.ne_par hy).symm];rcases hk with hk|hk
            · have ht':y.thr=false:=ht
              rw[hk]at ht';cases ht'
            · exact⟨fun _=>hk,fun _=>rfl⟩
          · rw[ZhX hs hx (Zbg _) (fun e'=>e (by rw[←e',hpi]))]
            exact hrd z hy ht e2) (.inr ((Zq3 hs hx (Zbg _)).2 (.inr ⟨hpi.symm,rfl⟩)))
        rw[←hpi];exact hrec
theorem ZiD {rk : Int→Nat}:∀(f:Nat) {N:List Nr} {x:Nr},WB N→RK N rk→x∈N→rk x.id≤f→RDx N x.id→(x.thr=false→x.rdy=true)→WFN (restN f N x.id)
  |0,N,x,h,hr,hx,hf,_,_=>by have:=hr.pos hx;omega
  | f + 1,N,x,h,hr,hx,hf,hrd,hk=>by
    have hs:=h.sk;rw[restN,ZbY hs.nd hx];simp only;by_cases c:x.rdy=false∨Zcy N x.id≠ []
    · rw[if_pos c]
      refine h.wf fun z hz ht=>?_
      by_cases e:z.id=x.id
      · have:=nd_eq hs.nd hz hx e;subst this
        rcases c with c|c
        · rw[hk ht]at c;cases c
        · exact⟨fun _=>Zem.1 c,fun _=>hk ht⟩
      · exact hrd z hz ht e
    · rw [if_neg c]
      have c1:x.rdy=true:=by cases hc:x.rdy with|true=>rfl|false=>exact absurd (.inl hc) c
      have c2:¬KX N x.id:=fun hh=>c (.inr (Zem.2 hh))
      cases hg:gt N x.par with
      | none=>
        simp only;have hnp:=ZaX.1 hg;refine(h.up hx Zbd (h.wt x hx) rfl (h.pass x hx) (fun p hp e=>absurd e (hnp p hp))).wf fun z hz ht=>?_
        obtain⟨y,hy,⟨e,rfl⟩|⟨e,rfl⟩⟩:=Za0.1 hz
        · have:=nd_eq hs.nd hy hx e;subst this
          show false=true↔KX _ y.id;rw[ZhX hs hy Zbd (hs.ne_par hy).symm];exact⟨fun hh=>(by cases hh),fun hh=>absurd hh c2⟩
        · rw[ZhX hs hx Zbd (fun e'=>hnp z hy e'.symm)]
          exact hrd z hy ht e
      | some p=>
        simp only;obtain⟨hp,hpi⟩:=ZaL hg;have hb:WB (upN N x.id rsF):=h.up hx Zbd (h.wt x hx) rfl (h.pass x hx) (fun q hq e=>⟨(h.pn x hx q hq e).1,fun hh=>(by cases hh)⟩);have hpx:p.id≠x.id:=fun e=>hs.ne_par hx (by rw[←hpi,e])
        have hp':p∈upN N x.id rsF:=Za0.2 ⟨p,hp,.inr ⟨hpx,rfl⟩⟩;have hu:=RK.up hs hr hx hp hpi;have hrec:=ZiD f (x:=p) hb (hr.ups Zbd) hp' (by omega) (fun z hz ht e=>by
          obtain⟨y,hy,⟨e2,rfl⟩|⟨e2,rfl⟩⟩:=Za0.1 hz
          · have:=nd_eq hs.nd hy hx e2;subst this
            show false=true↔KX _ y.id;rw[ZhX hs hy Zbd (hs.ne_par hy).symm];exact⟨fun hh=>(by cases hh),fun hh=>absurd hh c2⟩
          · rw[ZhX hs hx Zbd (fun e'=>e (by rw[←e',hpi]))]
            exact hrd z hy ht e2) (fun ht=>(hrd p hp ht hpx).2 ⟨x,hx,hpi.symm,c1⟩)
        rw[←hpi];exact hrec
theorem Ze1 :WFN [rootN]:=by
 have hm:∀x∈ [rootN],x=rootN:=fun x hx=>by simpa using hx
 have hno:¬∃y∈ [rootN],y.par=rootN.id∧y.rdy=true:=fun⟨y,hy,h,_⟩=>by rw[hm y hy]at h;cases h
 refine⟨⟨by simp,⟨rootN,by simp,rfl⟩,fun x hx _=>by rw[hm x hx];exact⟨rfl,rfl⟩,fun x hx h=>by rw[hm x hx]at h;exact absurd rfl h,by simp,fun _=>1,fun x hx=>by rw[hm x hx];exact⟨fun _=>rfl,fun h=>absurd rfl h,by show 1≤5;omega,fun _=>by show 1≤4;omega⟩⟩,fun x hx=>by rw[hm x hx];rfl,fun x hx=>by rw[hm x hx];decide,fun x hx=>by rw[hm x hx];decide,fun x hx p hp h=>?_,fun x hx _=>?_⟩
 ·rw[hm x hx,hm p hp]at h;cases h
 ·rw[hm x hx]
  constructor
  ·intro h;cases h
  ·intro h;exact absurd h hno
theorem Zcv {N:List Nr}(h:WFN N)(k:Int)(r:Bool):WFN (Zag N k r).2:=by
 obtain⟨rk,hr⟩:=h.sk.rk;unfold Zag;split
 ·exact h
 ·rename_i x hg
  obtain⟨hx,rfl⟩:=ZaL hg;split
  ·rename_i ht
   have hle:=(hr x hx).2.2.1;cases r with
   |true=>exact ZlB 6 h.wb hr hx (by omega) (h.rdx _) (.inl ht)
   |false=>exact ZiD 6 h.wb hr hx (by omega) (h.rdx _) (fun hf=>by rw[ht]at hf;cases hf)
  ·exact h
theorem Zf2 {N : List Nr} (h :WFN N) (par id wt:Int) (thr:Bool):WFN (Zbs N par id wt thr).2:=by
  unfold Zbs;split
  · exact h
  · rename_i c1
    have hw:isW wt=true:=by cases hc:isW wt with|true=>rfl|false=>exact absurd (.inl hc) c1
    have hid:1≤id:=by have:¬id<1:=fun hh=>c1 (.inr hh);omega
    split
    · exact h
    · rename_i p hp
      obtain⟨hpN,hpi⟩:=ZaL hp;split
      · exact h
      · rename_i hth
        split
        · exact h
        · rename_i hcl
          split
          · exact h
          · rename_i hdp
            split
            · exact h
            · rename_i hln
              have hno:∀x∈N,x.id≠id:=ZaX.1 (by cases hc:gt N id with|none=>rfl|some y=>rw[hc]at hcl;simp at hcl);have hpt:p.thr=false:=by simpa using hth
              have hst:=ZaV hw;have hpn:=h.now p hpN;have hsk:SK (N++[{id:=id,par:=par,wt:=wt,pass:=p.now,thr:=thr,rdy:=false,now:=0}]):=h.sk.add hpN hpi hpt hid hno (by
                cases thr with
                |true=>exact .inl rfl
                |false=>right;have:¬4≤Za2 6 N par:=fun hh=>hdp ⟨rfl,hh⟩;show Za2 6 N par<4;omega) (by omega)
              have hm:∀x,x∈N++[{id:=id,par:=par,wt:=wt,pass:=p.now,thr:=thr,rdy:=false,now:=(0:Int)}]→x∈N∨x={id:=id,par:=par,wt:=wt,pass:=p.now,thr:=thr,rdy:=false,now:=(0:Int)}:=fun x hx=>by simpa using hx
              have hkx:∀g,KX (N++[{id:=id,par:=par,wt:=wt,pass:=p.now,thr:=thr,rdy:=false,now:=(0:Int)}]) g↔KX N g:=fun g=>by
                constructor
                · rintro⟨y,hy,g1,g2⟩
                  rcases hm y hy with hy|rfl
                  · exact⟨y,hy,g1,g2⟩
                  · cases g2
                · rintro⟨y,hy,g1⟩;exact⟨y,List.mem_append_left _ hy,g1⟩
              refine⟨hsk,fun x hx=>?_,fun x hx=>?_,fun x hx=>?_,fun x hx q hq e=>?_,fun x hx ht=>?_⟩
              · rcases hm x hx with hx|rfl
                · exact h.wt x hx
                · exact hw
              · rcases hm x hx with hx|rfl
                · exact h.now x hx
                · exact⟨Int.le_refl _,by show(0:Int)≤_;omega⟩
              · rcases hm x hx with hx|rfl
                · exact h.pass x hx
                · show 0≤p.now∧p.now≤_;omega
              · rcases hm x hx with hx|rfl
                · rcases hm q hq with hq|rfl
                  · exact h.pn x hx q hq e
                  · by_cases c:x.id=0
                    · have:=(h.sk.rt x hx c).1;simp only at e;omega
                    · obtain⟨_,v,hv,g2,_⟩:=h.sk.pa x hx c
                      exact absurd (by rw[g2,←e]) (hno v hv)
                · refine⟨?_,fun hh=>by cases hh⟩
                  show p.now≤q.now+ZaH wt;rcases hm q hq with hq|rfl
                  · have:=nd_eq h.sk.nd hq hpN (by rw[hpi];exact e);subst this;omega
                  · have e':id=par:=e
                    exact absurd (by rw[hpi,e']) (hno p hpN)
              · show x.rdy=true↔KX _ x.id
                rw[hkx];rcases hm x hx with hx|rfl
                · exact h.rd x hx ht
                · constructor
                  · intro hh;cases hh
                  · rintro⟨y,hy,g1,_⟩
                    by_cases c:y.id=0
                    · have:=(h.sk.rt y hy c).1
                      have e':y.par=id:=g1;omega
                    · obtain⟨_,v,hv,g2,_⟩:=h.sk.pa y hy c
                      exact absurd (by rw[g2];exact g1) (hno v hv)
theorem ZeO {N : List Nr} (h:WFN N) (k W:Int):WFN (Zaq N k W).2:=by
  unfold Zaq;split
  · exact h
  · rename_i hwf
    have hw:isW W=true:=by simpa using hwf
    split
    · exact h
    · rename_i x hg
      obtain⟨hx,rfl⟩:=ZaL hg;split
      · exact h
      · split
        · exact h
        · rename_i p hgp
          obtain⟨hp,hpi⟩:=ZaL hgp;have hb2:=h.now p hp;have hb3:=h.pn x hx p hp hpi;have hsc:=ZeV (h.pass x hx).1 hb2 (h.wt x hx) hw hb3.1;have hst:=ZaV hw;have hskel:Skel (fun x:Nr=>{x with pass:=scaleN x.pass p.now x.wt W,wt:=W}):=⟨fun _=>rfl,fun _=>rfl,fun _=>rfl⟩
          refine(h.wb.up hx hskel hw rfl ?_ fun q hq e=>?_).wf fun z hz ht=>?_
          · show 0≤scaleN x.pass p.now x.wt W∧scaleN x.pass p.now x.wt W≤_;omega
          · have:=nd_eq h.sk.nd hq hp (by rw[e,hpi]);subst this
            show scaleN x.pass q.now x.wt W≤q.now+ZaH W∧(x.rdy=true→q.now≤scaleN x.pass q.now x.wt W);exact⟨hsc.2.1,fun hr=>hsc.2.2 (hb3.2 hr)⟩
          · have hkx:∀g,KX (upN N x.id fun x=>{x with pass:=scaleN x.pass p.now x.wt W,wt:=W}) g↔KX N g:=fun g=>by
              rw[Zq3 h.sk hx hskel];constructor
              · rintro(⟨y,hy,_,h1⟩|h1)
                · exact⟨y,hy,h1⟩
                · exact⟨x,hx,h1⟩
              · rintro⟨y,hy,h1⟩
                by_cases e:y.id=x.id
                · have:=nd_eq h.sk.nd hy hx e;subst this;exact .inr h1
                · exact .inl ⟨y,hy,e,h1⟩
            rw[hkx];obtain⟨y,hy,⟨e,rfl⟩|⟨e,rfl⟩⟩:=Za0.1 hz
            · exact h.rd y hy ht
            · exact h.rd _ hy ht
theorem Zg8 {N :List Nr} (h:WFN N) (k:Int):WFN (Zap N k).2:=by
  unfold Zap;split
  · exact h
  · rename_i c1
    split
    · exact h
    · rename_i c2
      obtain⟨rk,hr⟩:=h.sk.rk;have hk0:k≠0:=fun e=>c1 (.inr e)
      obtain⟨x,hg⟩:∃x,gt N k=some x:=by cases hc:gt N k with|none=>exact absurd (.inl (by rw[hc];rfl)) c1|some x=>exact⟨x,rfl⟩
      obtain⟨hx,rfl⟩:=ZaL hg;obtain⟨hkd,hnp⟩:=ZjJ (N:=N) (k:=x.id) (by simpa using c2);have hle:=(hr x hx).2.2.1;have hwf:WFN (restN 6 N x.id):=by
        by_cases hc:x.thr=false→x.rdy=true
        · exact ZiD 6 h.wb hr hx (by omega) (h.rdx _) hc
        · have hrf:x.rdy=false:=by cases hrd:x.rdy with|false=>rfl|true=>exact absurd (fun _=>hrd) hc
          rw[restN,hg];simp only;rw[if_pos (.inl hrf)];exact h
      obtain⟨g,hg1,hg2,hg3⟩:=ZbB 6 N x.id;have hoff:=Zgj h.sk hg hkd;have hnp2:∀y∈restN 6 N x.id,y.par≠x.id:=fun y hy=>by
        rw[hg3]at hy;obtain⟨v,hv,rfl⟩:=List.mem_map.1 hy;rw[hg1.par];exact hnp v hv
      generalize restN 6 N x.id=M at hwf hoff hnp2;have hm:∀y,y∈M.filter (fun y=> !(y.id==x.id))↔y∈M∧y.id≠x.id:=fun y=>by simp
      show WFN (M.filter (fun y=> !(y.id==x.id)));refine⟨hwf.sk.erase hk0 hnp2,fun y hy=>hwf.wt y ((hm y).1 hy).1,fun y hy=>hwf.now y ((hm y).1 hy).1,fun y hy=>hwf.pass y ((hm y).1 hy).1,fun y hy p hp=>hwf.pn y ((hm y).1 hy).1 p ((hm p).1 hp).1,fun y hy ht=>?_⟩;rw[hwf.rd y ((hm y).1 hy).1 ht];constructor
      · rintro⟨z,hz,h1,h2⟩
        exact⟨z,(hm z).2 ⟨hz,fun e=>by rw[hoff z hz e]at h2;cases h2⟩,h1,h2⟩
      · rintro⟨z,hz,h1⟩;exact⟨z,((hm z).1 hz).1,h1⟩
theorem Sat.addT {t mb:Nat}{T:List Nd}{H:List SP}{x:Nd}{w:World}(h:Sat w (Zbl mb (T.map kp++[kp x])::blk x.b 213 (ndc x)::Zco x.ib 60 x.q::blk t 210 [.map (some mb)]::(Zai T++H))):Sat w (blk t 210 [.map (some mb)]::Zbl mb ((T++[x]).map kp)::(Zai (T++[x])++H)):=by
 have h1:Sat w (blk t 210 [.map (some mb)]::Zbl mb (T.map kp++[kp x])::(Zai (x::T)++H)):=h.pick 3 rfl;have h2:(T++[x]).map kp=T.map kp++[kp x]:=by rw[List.map_append];rfl
 rw[h2];exact Sat.nds (List.perm_append_comm (l₁:=[x]) (l₂:=T)) h1
theorem ZoX {N:List Nr}{T:List Nd}(hT:OkT N T)(hsk:SK N)(H:List SP)(t mb:Nat)(par id wt:Int)(thr:Bool):U1 173 #[vp t,vi par,vi id,vi wt,.bool thr] (blk t 210 [.map (some mb)]::Zbl mb (T.map kp)::(Zai T++H)) (ι:={T':List Nd//OkT (Zbs N par id wt thr).2 T'}) (fun _=>Zal (Zbs N par id wt thr).1) fun T'=>blk t 210 [.map (some mb)]::Zbl mb (T'.1.map kp)::(Zai T'.1++H):=by
 refine eG func173 91 ?_;cases hp:gt N par with
 | none=>
  cases hg:gt N id with
  | none=>
   refine Xq (Xg 1 (Ae 1 ?_));refine Xq (Xg 11 (Al [(⟨t,0,none⟩,.map (some mb))] (hasC (ba 0) Zaa) ?_ 6 5));refine Xs (Zav (ZbW 207 (.tmp 19) (.tmp 20) true mb par (T.map kp) (.pointer none) (.tuple #[.pointer none,.bool false]) 3 208 (some 21) (fun _=>Kr) Kr Kr (fun _=>Kr) (fun _=>Kr) underlying207 Kr (fun _=>Kr) (ZbU (H:=(blk t 210 [.map (some mb)]::Zbl mb (T.map kp)::(Zai T++H))) (i:=1) rfl) (by rw[lk_none hT hp];rfl))) (fun _=>?_) 5;refine Ae 5 ?_;refine Xq (Xg 11 (Al [(⟨t,0,none⟩,.map (some mb))] (hasC (ba 0) Zaa) ?_ 6 5));refine Xs (Zav (ZbW 207 (.tmp 28) (.tmp 29) true mb id (T.map kp) (.pointer none) (.tuple #[.pointer none,.bool false]) 3 208 (some 30) (fun _=>Kr) Kr Kr (fun _=>Kr) (fun _=>Kr) underlying207 Kr (fun _=>Kr) (ZbU (H:=(blk t 210 [.map (some mb)]::Zbl mb (T.map kp)::(Zai T++H))) (i:=1) rfl) (by rw[lk_none hT hg];rfl))) (fun _=>?_) 5;refine Ae 5 ?_;refine Xq (Xb 0 (Xq (Xg 8 (Ar ?_ 7 1))));refine Xs (Xa (some 35) _ (Zbx _ wt)) (fun _=>?_) 6;refine Xr [(0,vp t),(1,vi par),(2,vi id),(3,vi wt),(4,.bool thr),(10,.nilIface),(11,.pointer none),(12,.bool false),(14,.bool false),(37,.bool (!(isW wt)))] ?_ 4 2;refine(Xs0 1 3 [(0,vp t),(1,vi par),(2,vi id),(3,vi wt),(4,.bool thr),(10,.nilIface),(11,.pointer none),(12,.bool false),(14,.bool false),(40,.bool ((!(isW wt))||(decide (id<1))))] ?_ ?_:RT _ _ _ _ _ _ 4 _)
   ·cases hg4:(!(isW wt))with
    |true=>
     refine Ae 3 ?_;exact mA ()
    |false=>
     refine Ae 3 ?_;exact mA ()
   refine Ae 1 ?_;refine Xc ((!(isW wt))||(decide (id<1))) (fun h1=>?_) (fun h1=>?_)
   ·have hc1:isW wt=false∨id<1:=by simpa using h1
    have hrn:Zbs N par id wt thr=(10,N):=by rw[Zbs,if_pos hc1]
    refine Xq (Xg 2 (Ae 2 ?_));refine Xv (Zae (Zab (Y0 (.iface 126 (vi 10)) (fun w hs=>?_))));exact⟨⟨T,by rw[hrn];exact hT⟩,by show _=Ending.returned (Zal (Zbs N par id wt thr).1);rw[hrn];rfl,hs⟩
   ·have hc1:¬(isW wt=false∨id<1):=by simpa using h1
    have hrn:Zbs N par id wt thr=(13,N):=by rw[Zbs,if_neg hc1,hp]
    refine Xq (Xg 10 (Ae 10 ?_));refine Xc true (fun _=>?_) (fun h=>by cases h);refine Xq (Xg 2 (Ae 2 ?_));refine Xv (Zae (Zab (Y0 (.iface 126 (vi 13)) (fun w hs=>?_))));exact⟨⟨T,by rw[hrn];exact hT⟩,by show _=Ending.returned (Zal (Zbs N par id wt thr).1);rw[hrn];rfl,hs⟩
  | some y=>
   obtain⟨i,z,hi,hzn,hzk⟩:=hT.get hg;refine Xq (Xg 1 (Ae 1 ?_));refine Xq (Xg 11 (Al [(⟨t,0,none⟩,.map (some mb))] (hasC (ba 0) Zaa) ?_ 6 5));refine Xs (Zav (ZbW 207 (.tmp 19) (.tmp 20) true mb par (T.map kp) (.pointer none) (.tuple #[.pointer none,.bool false]) 3 208 (some 21) (fun _=>Kr) Kr Kr (fun _=>Kr) (fun _=>Kr) underlying207 Kr (fun _=>Kr) (ZbU (H:=(blk t 210 [.map (some mb)]::Zbl mb (T.map kp)::(Zai T++H))) (i:=1) rfl) (by rw[lk_none hT hp];rfl))) (fun _=>?_) 5;refine Ae 5 ?_;refine Xq (Xg 11 (Al [(⟨t,0,none⟩,.map (some mb))] (hasC (ba 0) Zaa) ?_ 6 5));refine Xs (Zav (ZbW 207 (.tmp 28) (.tmp 29) true mb id (T.map kp) (.pointer none) (.tuple #[.pointer (some ⟨z.b,0,none⟩),.bool true]) 3 208 (some 30) (fun _=>Kr) Kr Kr (fun _=>Kr) (fun _=>Kr) underlying207 Kr (fun _=>Kr) (ZbU (H:=(blk t 210 [.map (some mb)]::Zbl mb (T.map kp)::(Zai T++H))) (i:=1) rfl) (by rw[Zbz hT hsk.nd hi hzk];rfl))) (fun _=>?_) 5;refine Ae 5 ?_;refine Xq (Xb 0 (Xq (Xg 8 (Ar ?_ 7 1))));refine Xs (Xa (some 35) _ (Zbx _ wt)) (fun _=>?_) 6;refine Xr [(0,vp t),(1,vi par),(2,vi id),(3,vi wt),(4,.bool thr),(10,.nilIface),(11,.pointer none),(12,.bool false),(14,.bool true),(37,.bool (!(isW wt)))] ?_ 4 2;refine(Xs0 1 3 [(0,vp t),(1,vi par),(2,vi id),(3,vi wt),(4,.bool thr),(10,.nilIface),(11,.pointer none),(12,.bool false),(14,.bool true),(40,.bool ((!(isW wt))||(decide (id<1))))] ?_ ?_:RT _ _ _ _ _ _ 4 _)
   ·cases hg4:(!(isW wt))with
    |true=>
     refine Ae 3 ?_;exact mA ()
    |false=>
     refine Ae 3 ?_;exact mA ()
   refine Ae 1 ?_;refine Xc ((!(isW wt))||(decide (id<1))) (fun h1=>?_) (fun h1=>?_)
   ·have hc1:isW wt=false∨id<1:=by simpa using h1
    have hrn:Zbs N par id wt thr=(10,N):=by rw[Zbs,if_pos hc1]
    refine Xq (Xg 2 (Ae 2 ?_));refine Xv (Zae (Zab (Y0 (.iface 126 (vi 10)) (fun w hs=>?_))));exact⟨⟨T,by rw[hrn];exact hT⟩,by show _=Ending.returned (Zal (Zbs N par id wt thr).1);rw[hrn];rfl,hs⟩
   ·have hc1:¬(isW wt=false∨id<1):=by simpa using h1
    have hrn:Zbs N par id wt thr=(13,N):=by rw[Zbs,if_neg hc1,hp]
    refine Xq (Xg 10 (Ae 10 ?_));refine Xc true (fun _=>?_) (fun h=>by cases h);refine Xq (Xg 2 (Ae 2 ?_));refine Xv (Zae (Zab (Y0 (.iface 126 (vi 13)) (fun w hs=>?_))));exact⟨⟨T,by rw[hrn];exact hT⟩,by show _=Ending.returned (Zal (Zbs N par id wt thr).1);rw[hrn];rfl,hs⟩
 | some p0=>
  obtain⟨j,p,hj,hpn,hpk⟩:=hT.get hp;cases hg:gt N id with
  | none=>
   refine Xq (Xg 1 (Ae 1 ?_));refine Xq (Xg 11 (Al [(⟨t,0,none⟩,.map (some mb))] (hasC (ba 0) Zaa) ?_ 6 5));refine Xs (Zav (ZbW 207 (.tmp 19) (.tmp 20) true mb par (T.map kp) (.pointer none) (.tuple #[.pointer (some ⟨p.b,0,none⟩),.bool true]) 3 208 (some 21) (fun _=>Kr) Kr Kr (fun _=>Kr) (fun _=>Kr) underlying207 Kr (fun _=>Kr) (ZbU (H:=(blk t 210 [.map (some mb)]::Zbl mb (T.map kp)::(Zai T++H))) (i:=1) rfl) (by rw[Zbz hT hsk.nd hj hpk];rfl))) (fun _=>?_) 5;refine Ae 5 ?_;refine Xq (Xg 11 (Al [(⟨t,0,none⟩,.map (some mb))] (hasC (ba 0) Zaa) ?_ 6 5));refine Xs (Zav (ZbW 207 (.tmp 28) (.tmp 29) true mb id (T.map kp) (.pointer none) (.tuple #[.pointer none,.bool false]) 3 208 (some 30) (fun _=>Kr) Kr Kr (fun _=>Kr) (fun _=>Kr) underlying207 Kr (fun _=>Kr) (ZbU (H:=(blk t 210 [.map (some mb)]::Zbl mb (T.map kp)::(Zai T++H))) (i:=1) rfl) (by rw[lk_none hT hg];rfl))) (fun _=>?_) 5;refine Ae 5 ?_;refine Xq (Xb 0 (Xq (Xg 8 (Ar ?_ 7 1))));refine Xs (Xa (some 35) _ (Zbx _ wt)) (fun _=>?_) 6;refine Xr [(0,vp t),(1,vi par),(2,vi id),(3,vi wt),(4,.bool thr),(10,.nilIface),(11,.pointer (some ⟨p.b,0,none⟩)),(12,.bool true),(14,.bool false),(37,.bool (!(isW wt)))] ?_ 4 2;refine(Xs0 1 3 [(0,vp t),(1,vi par),(2,vi id),(3,vi wt),(4,.bool thr),(10,.nilIface),(11,.pointer (some ⟨p.b,0,none⟩)),(12,.bool true),(14,.bool false),(40,.bool ((!(isW wt))||(decide (id<1))))] ?_ ?_:RT _ _ _ _ _ _ 4 _)
   ·cases hg4:(!(isW wt))with
    |true=>
     refine Ae 3 ?_;exact mA ()
    |false=>
     refine Ae 3 ?_;exact mA ()
   refine Ae 1 ?_;refine Xc ((!(isW wt))||(decide (id<1))) (fun h1=>?_) (fun h1=>?_)
   ·have hc1:isW wt=false∨id<1:=by simpa using h1
    have hrn:Zbs N par id wt thr=(10,N):=by rw[Zbs,if_pos hc1]
    refine Xq (Xg 2 (Ae 2 ?_));refine Xv (Zae (Zab (Y0 (.iface 126 (vi 10)) (fun w hs=>?_))));exact⟨⟨T,by rw[hrn];exact hT⟩,by show _=Ending.returned (Zal (Zbs N par id wt thr).1);rw[hrn];rfl,hs⟩
   ·have hc1:¬(isW wt=false∨id<1):=by simpa using h1
    refine Xq (Xg 10 (Am 10 [(⟨p.b,4,none⟩,.bool p.n.thr)] (hasC (up (up (Zbe (T:=T) (gMm hj) (j:=4) rfl))) Zaa) ?_));refine Xc (p.n.thr) (fun h2=>?_) (fun h2=>?_)
    ·have hth:p0.thr=true:=by rw[←hpn];simpa using h2
     have hrn:Zbs N par id wt thr=(13,N):=by rw[Zbs,if_neg hc1,hp];simp only[if_pos hth]
     refine Xq (Xg 2 (Ae 2 ?_));refine Xv (Zae (Zab (Y0 (.iface 126 (vi 13)) (fun w hs=>?_))));exact⟨⟨T,by rw[hrn];exact hT⟩,by show _=Ending.returned (Zal (Zbs N par id wt thr).1);rw[hrn];rfl,hs⟩
    ·have hth:¬p0.thr=true:=by rw[←hpn];simpa using h2
     refine Xq (Xg 2 (Ae 2 ?_));refine Xc false (fun h=>by cases h) (fun _=>?_);refine Xq (Xg 9 (Xr [(0,vp t),(1,vi par),(2,vi id),(3,vi wt),(4,.bool thr),(10,.nilIface),(11,.pointer (some ⟨p.b,0,none⟩)),(59,.bool (!thr))] ?_ 6 3));refine(Xs0 1 5 [(0,vp t),(1,vi par),(2,vi id),(3,vi wt),(4,.bool thr),(10,.nilIface),(11,.pointer (some ⟨p.b,0,none⟩)),(64,.bool ((!thr)&& (decide ((Za2 6 N par:Int)≥4))))] ?_ ?_:RT _ _ _ _ _ _ 6 _)
     ·cases hg3:(!thr)with
      |true=>
       refine Ar ?_ 3 2;refine Xs (Xa (some 62) _ (Znh hT hsk H t mb par)) (fun _=>?_) 2;refine Ae 2 ?_;exact mA ()
      |false=>
       refine Ae 5 ?_;exact mA ()
     refine Ae 1 ?_;refine Xc ((!thr)&& (decide ((Za2 6 N par:Int)≥4))) (fun h3=>?_) (fun h3=>?_)
     ·have hc3:thr=false∧4≤Za2 6 N par:=by simp at h3;exact⟨h3.1,by omega⟩
      have hrn:Zbs N par id wt thr=(12,N):=by rw[Zbs,if_neg hc1,hp];simp only[if_neg hth];rw[if_neg (by rw[hg];simp),if_pos hc3]
      refine Xq (Xg 2 (Ae 2 ?_));refine Xv (Zae (Zab (Y0 (.iface 126 (vi 12)) (fun w hs=>?_))));exact⟨⟨T,by rw[hrn];exact hT⟩,by show _=Ending.returned (Zal (Zbs N par id wt thr).1);rw[hrn];rfl,hs⟩
     ·have hc3:¬(thr=false∧4≤Za2 6 N par):=fun hc=>by rw[hc.1]at h3;simp at h3;omega
      refine Xq (Xg 7 (Al [(⟨t,0,none⟩,.map (some mb))] (hasC (ba 0) Zaa) ?_ 3 4));refine Xs (Zav (ZsN 207 3 208 (.tmp 70) mb (T.map kp) (some 71) (fun _=>Kr) Kr Kr (fun _=>Kr) underlying207 (ZbU (H:=(blk t 210 [.map (some mb)]::Zbl mb (T.map kp)::(Zai T++H))) (i:=1) rfl))) (fun _=>?_) 2;refine Ae 2 ?_;refine Xc (decide (((T.map kp).length:Int)≥60)) (fun h4=>?_) (fun h4=>?_)
      ·have hc4:60≤N.length:=by have:=hT.len;simp at h4;omega
       have hrn:Zbs N par id wt thr=(14,N):=by rw[Zbs,if_neg hc1,hp];simp only[if_neg hth];rw[if_neg (by rw[hg];simp),if_neg hc3,if_pos hc4]
       refine Xq (Xg 2 (Ae 2 ?_));refine Xv (Zae (Zab (Y0 (.iface 126 (vi 14)) (fun w hs=>?_))));exact⟨⟨T,by rw[hrn];exact hT⟩,by show _=Ending.returned (Zal (Zbs N par id wt thr).1);rw[hrn];rfl,hs⟩
      ·have hc4:¬60≤N.length:=by have:=hT.len;simp at h4;omega
       have hrn:Zbs N par id wt thr=(0,N++[{id:=id,par:=par,wt:=wt,pass:=p0.now,thr:=thr,rdy:=false,now:=0}]):=by rw[Zbs,if_neg hc1,hp];simp only[if_neg hth];rw[if_neg (by rw[hg];simp),if_neg hc3,if_neg hc4]
       refine Xk (Xq (Xy0 0 [17] 18 ?_));refine At' [0,1,2,3,4,5,6,7,8,9,10,11,12,13] [(⟨t,0,none⟩,.map (some mb)),(⟨p.b,6,none⟩,vi p.n.now)] (hasC (ba 0) (hasC (up (up (Zbe (T:=T) (gMm hj) (j:=6) rfl))) Zaa)) ?_;refine Xo 14 (Xa (some 88) _ (ZjC _ 60)) (fun(ib:Nat)=>?_);refine At' [15] [] Zaa ?_;refine Xo 16 (Xn 213 [vi id,vi par,vi wt,vi p.n.now,.bool thr,.bool false,vi 0,vp ib] (some 90) (fun b=>vp b)) (fun b1=>?_);refine DT.pick 3 rfl ?_;refine Xo 17 (Ztb 207 (.tmp 77) (.tmp 78) (.tmp 90) mb id (T.map kp) (.pointer (some ⟨b1,0,none⟩)) 3 208 (fun _=>Kr) Kr (.inl Kr) (fun _=>Kr) (fun _=>Kr) (fun _=>Kr) underlying207 Kr (lk_none hT hg)) (fun _=>?_);refine Xd (Xq (Xg 1 (Ae 1 ?_)));refine Xv ?_;have hpm:=ZaL hp;have hno:=ZaX.1 hg;have hid:1≤id:=by have:¬id<1:=fun h=>hc1 (.inr h);omega
       refine Y0 (.nilIface) (fun w hs=>?_);exact⟨⟨T++[⟨{id:=id,par:=par,wt:=wt,pass:=p0.now,thr:=thr,rdy:=false,now:=0},[],b1,ib⟩],by rw[hrn];exact hT.add hsk hpm.1 hpm.2 hid hno rfl b1 ib⟩,by show _=Ending.returned (Zal (Zbs N par id wt thr).1);rw[hrn];rfl,Sat.addT (x:=⟨{id:=id,par:=par,wt:=wt,pass:=p0.now,thr:=thr,rdy:=false,now:=0},[],b1,ib⟩) (by rw[←hpn];exact hs)⟩
  | some y=>
   obtain⟨i,z,hi,hzn,hzk⟩:=hT.get hg;refine Xq (Xg 1 (Ae 1 ?_));refine Xq (Xg 11 (Al [(⟨t,0,none⟩,.map (some mb))] (hasC (ba 0) Zaa) ?_ 6 5));refine Xs (Zav (ZbW 207 (.tmp 19) (.tmp 20) true mb par (T.map kp) (.pointer none) (.tuple #[.pointer (some ⟨p.b,0,none⟩),.bool true]) 3 208 (some 21) (fun _=>Kr) Kr Kr (fun _=>Kr) (fun _=>Kr) underlying207 Kr (fun _=>Kr) (ZbU (H:=(blk t 210 [.map (some mb)]::Zbl mb (T.map kp)::(Zai T++H))) (i:=1) rfl) (by rw[Zbz hT hsk.nd hj hpk];rfl))) (fun _=>?_) 5;refine Ae 5 ?_;refine Xq (Xg 11 (Al [(⟨t,0,none⟩,.map (some mb))] (hasC (ba 0) Zaa) ?_ 6 5));refine Xs (Zav (ZbW 207 (.tmp 28) (.tmp 29) true mb id (T.map kp) (.pointer none) (.tuple #[.pointer (some ⟨z.b,0,none⟩),.bool true]) 3 208 (some 30) (fun _=>Kr) Kr Kr (fun _=>Kr) (fun _=>Kr) underlying207 Kr (fun _=>Kr) (ZbU (H:=(blk t 210 [.map (some mb)]::Zbl mb (T.map kp)::(Zai T++H))) (i:=1) rfl) (by rw[Zbz hT hsk.nd hi hzk];rfl))) (fun _=>?_) 5;refine Ae 5 ?_;refine Xq (Xb 0 (Xq (Xg 8 (Ar ?_ 7 1))));refine Xs (Xa (some 35) _ (Zbx _ wt)) (fun _=>?_) 6;refine Xr [(0,vp t),(1,vi par),(2,vi id),(3,vi wt),(4,.bool thr),(10,.nilIface),(11,.pointer (some ⟨p.b,0,none⟩)),(12,.bool true),(14,.bool true),(37,.bool (!(isW wt)))] ?_ 4 2;refine(Xs0 1 3 [(0,vp t),(1,vi par),(2,vi id),(3,vi wt),(4,.bool thr),(10,.nilIface),(11,.pointer (some ⟨p.b,0,none⟩)),(12,.bool true),(14,.bool true),(40,.bool ((!(isW wt))||(decide (id<1))))] ?_ ?_:RT _ _ _ _ _ _ 4 _)
   ·cases hg4:(!(isW wt))with
    |true=>
     refine Ae 3 ?_;exact mA ()
    |false=>
     refine Ae 3 ?_;exact mA ()
   refine Ae 1 ?_;refine Xc ((!(isW wt))||(decide (id<1))) (fun h1=>?_) (fun h1=>?_)
   ·have hc1:isW wt=false∨id<1:=by simpa using h1
    have hrn:Zbs N par id wt thr=(10,N):=by rw[Zbs,if_pos hc1]
    refine Xq (Xg 2 (Ae 2 ?_));refine Xv (Zae (Zab (Y0 (.iface 126 (vi 10)) (fun w hs=>?_))));exact⟨⟨T,by rw[hrn];exact hT⟩,by show _=Ending.returned (Zal (Zbs N par id wt thr).1);rw[hrn];rfl,hs⟩
   ·have hc1:¬(isW wt=false∨id<1):=by simpa using h1
    refine Xq (Xg 10 (Am 10 [(⟨p.b,4,none⟩,.bool p.n.thr)] (hasC (up (up (Zbe (T:=T) (gMm hj) (j:=4) rfl))) Zaa) ?_));refine Xc (p.n.thr) (fun h2=>?_) (fun h2=>?_)
    ·have hth:p0.thr=true:=by rw[←hpn];simpa using h2
     have hrn:Zbs N par id wt thr=(13,N):=by rw[Zbs,if_neg hc1,hp];simp only[if_pos hth]
     refine Xq (Xg 2 (Ae 2 ?_));refine Xv (Zae (Zab (Y0 (.iface 126 (vi 13)) (fun w hs=>?_))));exact⟨⟨T,by rw[hrn];exact hT⟩,by show _=Ending.returned (Zal (Zbs N par id wt thr).1);rw[hrn];rfl,hs⟩
    ·have hth:¬p0.thr=true:=by rw[←hpn];simpa using h2
     have hrn:Zbs N par id wt thr=(20,N):=by rw[Zbs,if_neg hc1,hp];simp only[if_neg hth];rw[if_pos (by rw[hg];rfl)]
     refine Xq (Xg 2 (Ae 2 ?_));refine Xc true (fun _=>?_) (fun h=>by cases h);refine Xq (Xg 2 (Ae 2 ?_));refine Xv (Zae (Zab (Y0 (.iface 126 (vi 20)) (fun w hs=>?_))));exact⟨⟨T,by rw[hrn];exact hT⟩,by show _=Ending.returned (Zal (Zbs N par id wt thr).1);rw[hrn];rfl,hs⟩
def shT (k P:Int)(z:Nd):Nd:={z with n:=shG k P z.n}
theorem Zjt {k P:Int}{x:Nr}(h:x.par≠k):shG k P x=x:=by unfold shG;rw[if_neg (by simpa using h)]
theorem Zjs {k P:Int}{z:Nd}(h:z.n.par≠k):shT k P z=z:=by unfold shT;rw[Zjt h]
def shQ (q:List (Int×Int))(P:Int):List (Int×Int):=q.map fun e=>(mxI 0 (e.1-P),e.2)
theorem Zo1 {N:List Nr}(hs:SK N){g:Nr}(hg:g∈N){j p k:Int}:KD (upN (N.map (shG g.id g.now)) g.id (nwF 0)) j p k↔∃v∈N,v.par=j∧v.rdy=true∧((v.par=g.id∧p=mxI 0 (v.pass-g.now))∨(v.par≠g.id∧p=v.pass))∧v.id=k:=by
 constructor
 ·rintro⟨z,hz,h1,h2,h3,h4⟩
  obtain⟨v,hv,e1,e2,_,e4,_,_,e6⟩:=Zhj hs hg hz;exact⟨v,hv,by rw[←e2,h1],by rw[←e4,h2],by rw[←h3];exact e6,by rw[←e1,h4]⟩
 ·rintro⟨v,hv,h1,h2,h3,h4⟩
  have e0:(shG g.id g.now v).rdy=v.rdy∧(shG g.id g.now v).pass=p:=by
   unfold shG;rcases h3 with⟨c,h3⟩|⟨c,h3⟩
   ·rw[if_pos (by simpa using c)];exact⟨rfl,h3.symm⟩
   ·rw[if_neg (by simpa using c)];exact⟨rfl,h3.symm⟩
  have e1:=ZbD g.id g.now;by_cases c:v.id=g.id
  ·exact⟨nwF 0 (shG g.id g.now v),Za0.2 ⟨_,List.mem_map.2 ⟨v,hv,rfl⟩,.inl ⟨by rw[e1.id,c],rfl⟩⟩,by show(shG g.id g.now v).par=j;rw[e1.par,h1],by show(shG g.id g.now v).rdy=true;rw[e0.1,h2],e0.2,by show(shG g.id g.now v).id=k;rw[e1.id,h4]⟩
  ·exact⟨shG g.id g.now v,Za0.2 ⟨_,List.mem_map.2 ⟨v,hv,rfl⟩,.inr ⟨by rw[e1.id];exact c,rfl⟩⟩,by rw[e1.par,h1],by rw[e0.1,h2],e0.2,by rw[e1.id,h4]⟩
theorem Zii {N:List Nr}{T:List Nd}(hT:OkT N T)(hs:SK N)(hb:LB N)(hpn:PN N){i:Nat}{g:Nd}(hi:T[i]? =some g)(hbig:16777216<g.n.now):
  ZbI g.q g.n.now=shQ g.q g.n.now∧SrtE (shQ g.q g.n.now)∧g.q.length≤64∧(T.map (shT g.n.id g.n.now))[i]? =some g∧
  OkT (Za6 N g.n.id) ((T.map (shT g.n.id g.n.now)).set i {g with n:=nwF 0 g.n,q:=shQ g.q g.n.now})∧SameT T ((T.map (shT g.n.id g.n.now)).set i {g with n:=nwF 0 g.n,q:=shQ g.q g.n.now}):=by
 have hm:=gMm hi;have hgN:=hT.mem_n hm;have hgn:=hb.now g.n hgN;have hq:∀e∈g.q,g.n.now≤e.1∧e.1≤1099511627776:=fun e he=>by
  obtain⟨p,k⟩:=e;obtain⟨y,hy,h1,h2,h3,_⟩:=(hT.mem g hm p k).1 he;have a1:=hpn y hy g.n hgN h1.symm h2;have a2:=hb.pass y hy;simp only;omega
 have hgi:(T.map (shT g.n.id g.n.now))[i]? =some g:=by
  rw[List.getElem?_map,hi,Option.map_some,Zjs (fun e=>hs.ne_par hgN e.symm)]
 have hsame:SameT T (T.map (shT g.n.id g.n.now)):=by
  unfold SameT;rw[List.map_map];refine List.map_congr_left fun z _=>?_
  simp only[Function.comp,shT];rw[(ZbD _ _).id]
 refine⟨?_,?_,by have:=hT.qlen hs hm;omega,hgi,?_,hsame.trans (SameT.set hgi ⟨rfl,rfl,rfl⟩)⟩
 ·refine List.map_congr_left fun e he=>?_
  have:=hq e he;have e1:shN g.n.now=g.n.now:=by unfold shN mnI mxI;repeat' split<;>omega
  rw[e1,w64 (by omega) (by omega)]
 ·unfold shQ SrtE
  rw[List.pairwise_map];refine(hT.srt g hm).imp_of_mem fun {a b} ha hb h=>?_
  have h1:=hq a ha;have h2:=hq b hb;have e1:mxI 0 (a.1-g.n.now)=a.1-g.n.now:=by unfold mxI;split<;>omega
  have e2:mxI 0 (b.1-g.n.now)=b.1-g.n.now:=by unfold mxI;split<;>omega
  unfold eLt at h ⊢;simp only[e1,e2];omega
 ·rw [Zc8 hs.nd hgN hbig]
  have hsk:=hs.map _ (ZbD g.n.id g.n.now);refine⟨ZlU (N:=N.map (shG g.n.id g.n.now)) (by rw[←hT.n,List.map_map,List.map_map];rfl) hsk.nd hgi (nwF 0) _ rfl,fun z hz=>?_,fun z hz p k=>?_⟩
  ·rcases List.mem_or_eq_of_mem_set hz with hz|rfl
   ·obtain⟨v,hv,rfl⟩:=List.mem_map.1 hz
    exact hT.srt v hv
   ·unfold shQ SrtE
    rw[List.pairwise_map];refine(hT.srt g hm).imp_of_mem fun {a b} ha hb h=>?_
    have h1:=hq a ha;have h2:=hq b hb;have e1:mxI 0 (a.1-g.n.now)=a.1-g.n.now:=by unfold mxI;split<;>omega
    have e2:mxI 0 (b.1-g.n.now)=b.1-g.n.now:=by unfold mxI;split<;>omega
    unfold eLt at h ⊢;simp only[e1,e2];omega
  ·show(p,k)∈z.q↔KD _ z.n.id p k
   rw[Zo1 hs hgN];obtain⟨l,hl⟩:=List.mem_iff_getElem?.1 hz;rw[List.getElem?_set]at hl;by_cases c:i=l
   ·subst c
    rw[if_pos rfl]at hl;split at hl
    ·cases hl
     show(p,k)∈shQ g.q g.n.now↔∃v∈N,v.par=g.n.id∧_;simp only[shQ,List.mem_map,Prod.mk.injEq];constructor
     ·rintro⟨⟨p0,k0⟩,he,h1,h2⟩
      obtain⟨y,hy,g1,g2,g3,g4⟩:=(hT.mem g hm p0 k0).1 he;exact⟨y,hy,g1,g2,.inl ⟨g1,by rw[g3];exact h1.symm⟩,by rw[g4];exact h2⟩
     ·rintro⟨v,hv,g1,g2,g3,g4⟩
      rcases g3 with⟨_,g3⟩|⟨g3,_⟩
      ·exact⟨(v.pass,v.id),(hT.mem g hm _ _).2 ⟨v,hv,g1,g2,rfl,rfl⟩,g3.symm,g4⟩
      ·exact absurd g1 g3
    ·cases hl
   ·rw[if_neg c,List.getElem?_map]at hl
    obtain⟨z0,hz0,rfl⟩:=Option.map_eq_some_iff.1 hl;have hne:z0.n.id≠g.n.id:=fun e=>c (hT.ix hs.nd hi hz0 e.symm)
    show(p,k)∈z0.q↔∃v∈N,v.par=(shG g.n.id g.n.now z0.n).id∧_;rw[(ZbD _ _).id,hT.mem z0 (gMm hz0) p k];constructor
    ·rintro⟨y,hy,g1,g2,g3,g4⟩
     exact⟨y,hy,g1,g2,.inr ⟨by rw[g1];exact hne,g3.symm⟩,g4⟩
    ·rintro⟨v,hv,g1,g2,g3,g4⟩
     rcases g3 with⟨g3,_⟩|⟨_,g3⟩
     ·exact absurd (g1.symm.trans g3) hne
     ·exact⟨v,hv,g1,g2,g3.symm,g4⟩
def shD (k P:Int)(dn:List Nat)(T:List Nd):List Nd:=T.mapIdx fun i z=>if i∈dn then shT k P z else z
theorem ZeT {k P:Int}{dn:List Nat}{T:List Nd}(j:Nat):(shD k P dn T)[j]? =(T[j]?).map (fun z=>if j∈dn then shT k P z else z):=by
 rw[shD,List.getElem?_mapIdx]
theorem ZlT {k P:Int}{dn:List Nat}{T:List Nd}{j:Nat}{z:Nd}(hz:T[j]? =some z):(shD k P dn T).set j (shT k P z)=shD k P (dn++[j]) T:=by
 apply List.ext_getElem?;intro i;rw[List.getElem?_set,ZeT,ZeT];by_cases c:j=i
 ·subst c
  have:=(gSs hz).1;rw[if_pos rfl,if_pos (by simpa [shD] using this),hz];simp
 ·rw[if_neg c]
  cases T[i]? with
  |none=>rfl
  |some v=>simp[Ne.symm c]
theorem ZnT {k P:Int}{dn:List Nat}{T:List Nd}{j:Nat}{z:Nd}(hz:T[j]? =some z)(hp:z.n.par≠k):shD k P (dn++[j]) T=shD k P dn T:=by
 rw[←ZlT hz,Zjs hp];refine ZeG ?_;rw[ZeT,hz,Option.map_some,Zjs hp];simp
theorem ZpQ {k P:Int}{dn:List Nat}{T:List Nd}(h:∀j,j<T.length→j∈dn):shD k P dn T=T.map (shT k P):=by
 apply List.ext_getElem?;intro i;rw[ZeT,List.getElem?_map];cases hi:T[i]? with
 |none=>rfl
 |some v=>simp[h i (gSs hi).1]
theorem ZpP {k P:Int}{T:List Nd}:shD k P [] T=T:=by
 apply List.ext_getElem?;intro i;rw[ZeT];cases T[i]? <;>simp
def wE :Enc (Int×Nat):=⟨1,by decide,fun e=> [.pointer (some ⟨e.2,0,none⟩)],fun _=>rfl,by intro a u hu;simp at hu;subst hu;rfl⟩
def OnT (T:List Nd)(wy:List (Int×Nat)):Prop:=∀e∈wy,∃(i:Nat) (z:Nd),T[i]? =some z∧z.n.id=e.1∧z.b=e.2
theorem OnT.same {T T':List Nd}{wy:List (Int×Nat)}(h:OnT T wy)(hs:SameT T T'):OnT T' wy:=fun e he=>by
 obtain⟨i,z,h1,h2,h3⟩:=h e he;obtain⟨z',g1,g2,g3,_⟩:=hs.at h1;exact⟨i,z',g1,by rw[g2,h2],by rw[g3,h3]⟩
theorem Zih {N:List Nr}{T:List Nd}(hT:OkT N T)(hsk:SK N){rk:Int→Nat}{r:Nat}(hdn:DN rk r N){wy:List (Int×Nat)}(hl:wy.length≤1000000)(hon:OnT T wy)(H:List SP)(t mb:Nat)(A:Option Addr)(cap:Nat):U1 103 #[vp t,.slice A wy.length cap] (row wE 208 (.slice A wy.length cap) wy::blk t 210 [.map (some mb)]::Zbl mb (T.map kp)::(Zai T++H)) (ι:={T':List Nd//OkT ((wy.map (·.1)).foldl Za6 N) T'∧SameT T T'}) (fun _=> .tuple #[]) fun T'=>row wE 208 (.slice A wy.length cap) wy::blk t 210 [.map (some mb)]::Zbl mb (T'.1.map kp)::(Zai T'.1++H):=by
 refine eG func103 68 ?_;refine Xq<|Xg 3<|Be<|Xb 0 (Xp [(0,vp t),(8,.slice A wy.length cap),(9,vi (wy.length:Int)),(10,vi 0)] ?_);refine ZbV (fun(s:List Nd×Nat)=> [(0,vp t),(8,.slice A wy.length cap),(9,vi (wy.length:Int)),(10,vi (s.2:Int))]) (fun(s:List Nd×Nat)=>(row wE 208 (.slice A wy.length cap) wy::blk t 210 [.map (some mb)]::Zbl mb (s.1.map kp)::(Zai s.1++H))) (fun k (s:List Nd×Nat)=>k+s.2=wy.length∧∃N1,OkT N1 s.1∧SK N1∧DN rk r N1∧SameT T s.1∧(wy.map (·.1)).foldl Za6 N=((wy.drop s.2).map (·.1)).foldl Za6 N1) wy.length (T,0) Kr ⟨rfl,N,hT,hsk,hdn,SameT.refl T,rfl⟩ ?_;rintro k ⟨T1,u⟩ ⟨hku,N1,hT1,hs1,hd1,hsm,hfold⟩;simp only at hku hT1 hsm hfold;refine Xq<|Xg 1<|Ce [(0,vp t),(8,.slice A wy.length cap),(9,vi (wy.length:Int)),(10,vi u),(11,.bool (decide ((u:Int)< (wy.length:Int))))]<|Xq (Xc (decide ((u:Int)< (wy.length:Int))) (fun h1=>?_) (fun h1=>?_))
 ·have hu:u<wy.length:=by have:=of_decide_eq_true h1;omega
  obtain⟨e,he⟩:∃e,wy[u]? =some e:=⟨_,gEe hu⟩
  obtain⟨i,g,hi,hgid,hgb⟩:=(hon.same hsm) e (gMm he);have hgm:=gMm hi;have hgN:=hT1.mem_n hgm;have hdrop:(wy.drop u).map (·.1)=e.1::(wy.drop (u+1)).map (·.1):=by rw[List.drop_eq_getElem_cons hu,List.map_cons,(gSs he).2]
  refine PT.know (KR.isSome (s:=⟨A,cap,wy⟩) (Zad 0 rfl) (List.ne_nil_of_length_pos (by show 0<wy.length;omega))) ?_;rintro⟨sb,so,hA⟩;dsimp only at hA;subst hA;refine Xk<|Xq<|Xb 1<|Xq<|Xg 3<|Bs 2 (Zav (Xi 228 (.tmp 8) (.tmp 10) sb so wy.length cap u 1 208 (u:Int) 12 underlying228))<|Bm [(⟨sb,so+u*1,none⟩,vp e.2)] (hasC ((Zad (xs:=wy) (A:=some ⟨sb,so,none⟩) (k:=cap) (E:=wE) (T:=208) 0 rfl).cell rfl (i:=u) (x:=e) he (j:=0) rfl) Zaa)<|Xq (Xq (Xg 5 (Cr 2 3 [(0,vp t),(8,.slice (sA sb so) wy.length cap),(9,vi (wy.length:Int)),(10,vi u),(5,vp e.2),(16,.pointer (sA e.2 6))] ?_)));rw[show e.2=g.b by rw[hgb]];refine Bm [(⟨g.b,6,none⟩,vi g.n.now)] (hasC (up (up (up (Zbe (T:=T1) hgm (j:=6) rfl)))) Zaa)<|Xc (decide (g.n.now≤16777216)) (fun h2=>?_) (fun h2=>?_)
  ·have hnb:¬16777216<g.n.now:=by have:=of_decide_eq_true h2;omega
   refine Xx 1 (Zao (Zax (Xg 2 (Ce [(0,vp t),(8,.slice (sA sb so) wy.length cap),(9,vi (wy.length:Int)),(10,vi (IntKind.i64.wrap ((u:Int)+1)))] ?_))));rw[show IntKind.i64.wrap ((u:Int)+1)=((u+1:Nat):Int)by rw[w64 (by omega) (by omega)];rfl];exact gA (k-1) (T1,u+1) (by omega) ⟨by simp only;omega,N1,hT1,hs1,hd1,hsm,by simp only;rw[hfold,hdrop,List.foldl_cons,←hgid,Zc7 hs1.nd hgN hnb]⟩
  ·have hbig:16777216<g.n.now:=by have:=of_decide_eq_false h2;omega
   obtain⟨hsh,hsq,hql,hgi,hT2,hsm2⟩:=Zii hT1 hs1 hd1.lb hd1.pn hi hbig;have hgn:=hd1.now g.n hgN;refine Xk<|Xq<|Xq<|Xg 5<|Bl 1 4 [(⟨t,0,none⟩,.map (some mb))] (hasC (ba 1) Zaa)<|Xh0 ?_ 2 1;refine Bx 0 (Zpg 207 (.tmp 22) mb (T1.map kp) 3 208 (some 23) (fun _=>Kr) Kr Kr (fun _=>Kr) underlying207) fun it1=>endR<|Xb 2 ?_
   refine PT.sat (H':=Zit it1 mb (T1.map kp) []::row wE 208 (.slice (sA sb so) wy.length cap) wy::blk t 210 [.map (some mb)]::(Zai (shD g.n.id g.n.now [] T1)++H)) (fun _ hs=>by rw[ZpP];exact hs) ?_;refine Xp [(0,vp t),(5,vp g.b),(8,.slice (sA sb so) wy.length cap),(9,vi (wy.length:Int)),(10,vi u),(23,vp it1)] ?_;refine ZbV (fun(dn:List Nat)=> [(0,vp t),(5,vp g.b),(8,.slice (sA sb so) wy.length cap),(9,vi (wy.length:Int)),(10,vi u),(23,vp it1)]) (fun(dn:List Nat)=>(Zit it1 mb (T1.map kp) dn::row wE 208 (.slice (sA sb so) wy.length cap) wy::blk t 210 [.map (some mb)]::(Zai (shD g.n.id g.n.now dn T1)++H))) (fun k (dn:List Nat)=>k+dn.length=T1.length∧dn.Nodup∧∀j∈dn,j<T1.length) T1.length [] Kr ⟨rfl,List.nodup_nil,fun _ h=>by cases h⟩ ?_;rintro k2 dn ⟨hk2,hdnd,hdl⟩;refine Xq (Xg 2 ?_);refine ZrJ (z:=1) (.tmp 23) it1 mb (T1.map kp) dn (some 24) (fun _=>Kr) Kr Kr (fun _=>Kr) (fun h0=>?_) (fun j kk vv hj hnj=>?_)
   ·refine Ce [(0,vp t),(5,vp g.b),(8,.slice (sA sb so) wy.length cap),(9,vi (wy.length:Int)),(10,vi u),(23,vp it1),(25,.bool false)]<|Xq<|cF<|Xx 2 (Zao (Zao (Zax (Xq ?_))));refine PT.rngEnd ?_;rw[ZpQ (fun j hj'=>h0 j (by simpa using hj'))];obtain⟨R,hR,hR2⟩:=ZiK hgi;refine PT.pick 0 rfl<|PT.pick 2 rfl<|PT.pick 2 rfl ?_;refine PT.open1c (hR) ?_;refine PT.pick 4 rfl<|Xy0 1 [] 9<|At' [0,1,2,3,4,5,6,7] [(⟨g.b,7,none⟩,vp g.ib),(⟨g.b,6,none⟩,vi g.n.now)] (hasC (ba 3) (hasC (ba 3) Zaa))<|Yo 8 (Xa (some 63) _ (shift_is hsh hsq hql _ _))<|Xd<|Xg 4<|Cr 1 3 [(0,vp t),(8,.slice (sA sb so) wy.length cap),(9,vi (wy.length:Int)),(10,vi u),(66,.pointer (sA g.b 6))]<|Xh0 ?_ 4 1;refine Bs 0 (Xz [(6,vi 0)])<|endR<|PT.pick 1 rfl<|PT.pick 1 rfl<|PT.pick 4 rfl<|PT.pick 4 rfl<|PT.pick 4 rfl ?_;refine PT.close1c ({g with n:=nwF 0 g.n,q:=shQ g.q g.n.now}) (hR2 _) ?_;rw[←hsm2.kp];refine Xg 2 (Ce [(0,vp t),(8,.slice (sA sb so) wy.length cap),(9,vi (wy.length:Int)),(10,vi (IntKind.i64.wrap ((u:Int)+1)))] ?_);rw[show IntKind.i64.wrap ((u:Int)+1)=((u+1:Nat):Int)by rw[w64 (by omega) (by omega)];rfl];exact gA (k-1) (_,u+1) (by omega) ⟨by simp only;omega,_,hT2,hs1.shift hgN,hd1.shift hs1 hgN,hsm.trans hsm2,by simp only;rw[hfold,hdrop,List.foldl_cons,←hgid]⟩
   ·obtain⟨z,hz,rfl,rfl⟩:=ZrQ hj;have hzD:(shD g.n.id g.n.now dn T1)[j]? =some z:=by rw[ZeT,hz];simp[hnj]
    have hgD:(shD g.n.id g.n.now dn T1)[i]? =some g:=by rw[ZeT,hi,Option.map_some,Zjs (fun e=>hs1.ne_par hgN e.symm)];simp
    have hl2:=Zhi (l:=dn++[j]) (n:=T1.length) (List.nodup_append.2 ⟨hdnd,by simp,by intro a ha b hb;simp at hb;subst hb;exact fun e=>hnj (e▸ha)⟩) (by intro a ha;rcases List.mem_append.1 ha with ha|ha;exact hdl a ha;(simp at ha;subst ha;exact(gSs hz).1));rw[List.length_append,List.length_singleton]at hl2;refine Be<|Xq<|cT<|Xk<|Xb 3<|Xq<|Xg 3<|Bs 2 (Zav (Zpx (H:=(Zit it1 mb (T1.map kp) (dn++[j])::row wE 208 (.slice (sA sb so) wy.length cap) wy::blk t 210 [.map (some mb)]::(Zai (shD g.n.id g.n.now dn T1)++H))) (.tmp 23) it1 mb (T1.map kp) dn j z.n.id (vp z.b) 0 (some 26) (fun _=>Kr) Kr Kr (fun _=>Kr) rfl hj))<|Be<|Xq<|Xy0 0 [] 11<|Xt [0,1,2,3,4,5,6,7,8,9,10] [(0,vp t),(5,vp g.b),(8,.slice (sA sb so) wy.length cap),(9,vi (wy.length:Int)),(10,vi u),(23,vp it1),(7,vp z.b),(38,.bool (z.n.par==g.n.id))] [(⟨z.b,1,none⟩,vi z.n.par),(⟨g.b,0,none⟩,vi g.n.id)] (hasC (up (up (up (Zbe (T:=shD g.n.id g.n.now dn T1) (gMm hzD) (j:=1) rfl)))) (hasC (up (up (up (Zbe (T:=shD g.n.id g.n.now dn T1) (gMm hgD) (j:=0) rfl)))) Zaa))<|Xd (Xc (z.n.par==g.n.id) (fun h3=>?_) (fun h3=>?_))
    ·have hpar:z.n.par=g.n.id:=by simpa using h3
     have hzN:=hT1.mem_n (gMm hz);have hzp:=hd1.pass z.n hzN;obtain⟨R,hR,hR2⟩:=ZiK hzD;have hgR:g∈R:=by rcases List.mem_cons.1 (hR.mem_iff.1 (gMm hgD))with e|e;(subst e;exact absurd hpar.symm (hs1.ne_par hzN));exact e
     have hz':shT g.n.id g.n.now z={z with n:={z.n with pass:=mxI 0 (z.n.pass-g.n.now)}}:=by unfold shT shG;rw[if_pos (by simpa using hpar)]
     have hR3:(shD g.n.id g.n.now (dn++[j]) T1).Perm ({z with n:={z.n with pass:=mxI 0 (z.n.pass-g.n.now)}}::R):=by rw[←ZlT hz,hz'];exact hR2 _
     refine PT.open1c (hR) ?_;refine Xy0 0 [16] 17<|Xt [0,1,2,3,4,5,6,7,8,9,10] [(0,vp t),(5,vp g.b),(8,.slice (sA sb so) wy.length cap),(9,vi (wy.length:Int)),(10,vi u),(23,vp it1),(39,vp z.b),(49,vi (IntKind.i64.wrap (z.n.pass-g.n.now)))] [(⟨z.b,3,none⟩,vi z.n.pass),(⟨g.b,6,none⟩,vi g.n.now)] (hasC (ba 3) (hasC (up (up (up (up (up (Zbe (T:=R) hgR (j:=6) rfl)))))) Zaa))<|Yo 11 (Xa (some 50) _ (Zhf _ 0 (IntKind.i64.wrap (z.n.pass-g.n.now)))) ?_;rw[show IntKind.i64.wrap (z.n.pass-g.n.now)=(z.n.pass-g.n.now)by rw[w64 (by omega) (by omega)]];refine Yo 12 (Xa (some 51) _ (ZfT _ 0 (z.n.pass-g.n.now) (by decide) (by omega)))<|At' [13,14,15] [] Zaa<|DT.pick 3 rfl<|Yo 16 (Xz [(3,vi (mxI 0 (z.n.pass-g.n.now)))])<|Xd<|PT.pick 0 rfl<|PT.pick 3 rfl<|PT.pick 3 rfl<|PT.pick 3 rfl ?_;refine PT.close1c ({z with n:={z.n with pass:=mxI 0 (z.n.pass-g.n.now)}}) (hR3) ?_;exact gA (k2-1) (dn++[j]) (by omega) ⟨by rw[List.length_append,List.length_singleton];omega,List.nodup_append.2 ⟨hdnd,by simp,by intro a ha b hb;simp at hb;subst hb;exact fun e=>hnj (e▸ha)⟩,by intro a ha;rcases List.mem_append.1 ha with ha|ha;exact hdl a ha;(simp at ha;subst ha;exact(gSs hz).1)⟩
    ·have hpar:z.n.par≠g.n.id:=by simpa using h3
     refine Xk ?_;rw[←ZnT hz hpar];exact gA (k2-1) (dn++[j]) (by omega) ⟨by rw[List.length_append,List.length_singleton];omega,List.nodup_append.2 ⟨hdnd,by simp,by intro a ha b hb;simp at hb;subst hb;exact fun e=>hnj (e▸ha)⟩,by intro a ha;rcases List.mem_append.1 ha with ha|ha;exact hdl a ha;(simp at ha;subst ha;exact(gSs hz).1)⟩
 ·have hu:¬u<wy.length:=by have:=of_decide_eq_false h1;omega
  exact Xx 0 (Zao (Zao (Zax (Y1 (.tuple #[]) fun w hs=>⟨⟨T1,by rw[hfold,List.drop_eq_nil_of_le (by omega)];exact hT1,hsm⟩,rfl,hs⟩))))
theorem Zr0 {ι:Type}{P:Program}{f:FuncId}{vs:Array Value}{rv:ι→Value}{X A B:SP}{T:List Nd}{H:List SP}{A' B':ι→SP}{T':ι→List Nd}
  (h:∀(H:List SP) w,Sat w (A::B::(Zai T++H))→Calls P f vs w (Ret rv fun x=>A' x::B' x::(Zai (T' x)++H))):∀w,Sat w (X::A::B::(Zai T++H))→Calls P f vs w (Ret rv fun x=>X::A' x::B' x::(Zai (T' x)++H)):=fun w hs=>
 (h (X::H) w (Sat.perm (List.perm_middle (a:=X) (l₁:=A::B::Zai T) (l₂:=H)).symm hs)).mono fun e w' ⟨x,he,hx⟩=>⟨x,he,Sat.perm (List.perm_middle (a:=X) (l₁:=A' x::B' x::Zai (T' x)) (l₂:=H)) hx⟩
theorem ZrY {A B C:SP}{T:List Nd}{H:List SP}{x:Nd}(hx:x∈T):∃j:Nat,(A::B::C::(Zai T++H))[j]? =some (Zco x.ib 60 x.q):=by
 have h1:Zco x.ib 60 x.q∈Zai T:=by
  induction T with
  |nil=>cases hx
  |cons a T ih=>
   rcases List.mem_cons.1 hx with rfl|hx
   ·exact .tail _ (.head _)
   ·exact .tail _ (.tail _ (ih hx))
 exact List.mem_iff_getElem?.1 (.tail _ (.tail _ (.tail _ (List.mem_append_left H h1))))
theorem Zre :Ety Tryz.prog wE 208 (.pointer none):=by
 obtain⟨i,hi,hz,hs,hb⟩:=info_parts (P:=Tryz.prog) (e:=208) (z:= .pointer none) (size:=1) (bytes:=8) Kr;exact⟨⟨i,hi,hz,hs,by omega⟩,rfl⟩
structure RnX where
 T:List Nd
 x:Nd
 wy:List (Int×Nat)
 a:Option Addr
 c:Nat
structure RunI (N:List Nr)(T:List Nd)(rk:Int→Nat)(k:Nat)(s:RnX):Prop where
 ex:∃N1,OkT N1 s.T∧SK N1∧RK N1 rk∧DN rk (rk s.x.n.id) N1∧ZbL 6 N 0 []=ZbL k N1 s.x.n.id (s.wy.map (·.1))
 same:SameT T s.T
 on:OnT s.T s.wy
 mem:∃i:Nat,s.T[i]? =some s.x
 rank:k+rk s.x.n.id=7
 len:s.wy.length+1=rk s.x.n.id
theorem Zn2 {N:List Nr}{T:List Nd}(hT:OkT N T)(hw:WFN N)(H:List SP)(t mb:Nat):U1 70 #[vp t] (blk t 210 [.map (some mb)]::Zbl mb (T.map kp)::(Zai T++H)) (ι:={T':List Nd//OkT (Zcd N).2 T'∧SameT T T'}) (fun _=> .tuple #[vi (Zcd N).1.1,.bool (Zcd N).1.2]) fun T'=>blk t 210 [.map (some mb)]::Zbl mb (T'.1.map kp)::(Zai T'.1++H):=by
 have hsk:=hw.sk;obtain⟨rk,hrk⟩:=hsk.rk;obtain⟨r0,hr0,hr00⟩:=hsk.root;have hg0:gt N 0=some r0:=hr00▸ZbY hsk.nd hr0;obtain⟨i0,z0,hi0,hz0,hz0k⟩:=hT.get hg0;have hz0m:=gMm hi0;refine eG func70 68 ?_;refine Xq (Xg 2 (Ce [(0,vp t),(2,vi 0),(3,.bool false)] ?_));refine ZcW 0 (fun(s:RnX)=> [(0,vp t),(4,vp s.x.b),(5,.slice s.a s.wy.length s.c)]) (fun(s:RnX)=>(row wE 208 (.slice s.a s.wy.length s.c) s.wy::blk t 210 [.map (some mb)]::Zbl mb (s.T.map kp)::(Zai s.T++H))) (fun k (s:RnX)=>RunI N T rk k s∧r0.rdy=true) Kr Kr Kr Kr ?_ ?_
 ·rintro k ⟨T1,x1,wy,A,cap⟩ ⟨⟨⟨N1,hT1,hs1,hr1,hd1,hdn⟩,hsm,hon,⟨i,hi⟩,hkr,hwl⟩,hrdy⟩ K hK;simp only at hT1 hd1 hdn hsm hon hi hkr hwl;have hm:=gMm hi;have hxN:=hT1.mem_n hm;have hrx:=(hr1 _ hxN).2.2.1;obtain⟨jx,hjx⟩:=ZrY (A:=row wE 208 (.slice A wy.length cap) wy) (B:=blk t 210 [.map (some mb)]) (C:=Zbl mb (T1.map kp)) (H:=H) hm;obtain⟨k,rfl⟩:∃k',k=k'+1:=⟨k-1,by omega⟩
  cases hq:x1.q with
  |nil=>
   refine Xq<|Xg 11<|Bl 7 4 [(⟨x1.b,7,none⟩,vp x1.ib)] (hasC (up (up (up (Zbe (T:=T1) hm (j:=7) rfl)))) Zaa)<|Bs 6 (Xa (some 24) _ (Zgd jx hjx (by rw[hq];exact ZmB _ x1.ib 60 [])))<|Br 3 3<|Bx 2 (Xn 230 [vi 0,vi 0] (some 6) (fun b=>vp b)) fun b1=>Bs 1 (Xz [(0,vi 0),(1,vi 0)])<|Be<|PT.drop<|Xq<|Xq<|Xg 2<|Be<|cT<|Xq<|Xg 3<|Br 1 2<|Bx 0 (Xa (some 31) _ (Zih hT1 hs1 hd1 (by omega) hon H t mb A cap)) (fun(T':{T':List Nd//OkT ((wy.map (·.1)).foldl Za6 N1) T'∧SameT T1 T'})=>?_)
   obtain⟨T2,hT2,hsm2⟩:=T';obtain⟨x2,hx2,hx2k,hx2b,_⟩:=hsm2.at hi;refine endR<|Xq<|Xg 7<|Bm [(⟨x1.b,0,none⟩,vi x1.n.id)] (hasC (up (up (up (by rw[←hx2b,←hx2k];exact Zbe (T:=T2) (gMm hx2) (j:=0) rfl)))) Zaa)<|Xv (Zab (ZcR ?_));have hfin:ZbL 6 N 0 []=(x1.n.id,(wy.map (·.1)).foldl Za6 N1):=by rw[hdn,ZbL,ZmI hT1 hm hq]
   have hrn:Zcd N=((x1.n.id,true),(wy.map (·.1)).foldl Za6 N1):=by rw[Zcd,hg0];simp only[hrdy,if_true,hfin]
   refine Y0 (.tuple #[vi x1.n.id,.bool true]) (fun w hs=>?_);exact⟨⟨T2,by rw[hrn];exact hT2,hsm.trans hsm2⟩,by show _=Ending.returned (.tuple #[.int .i64 (Zcd N).1.1,.bool (Zcd N).1.2]);rw[hrn],hs.tail⟩
  |cons e r=>
   obtain⟨y,hly,hyN,hyp,hyr,hye,hyi⟩:=Zqv hT1 hs1 hm hq;obtain⟨j,yz,hj,hyz⟩:=hT1.of_n hyN;obtain⟨hd2,hyb,hyx⟩:=hd1.step hs1 hr1 hxN hyN hyp hyr (least_some hly).2;have hry:=RK.up hs1 hr1 hyN hxN hyp.symm;have hij:i≠j:=fun e=>by subst e;rw[hi]at hj;cases hj;rw[hyz]at hry;omega
   have hyk:yz.n.id=e.2:=by rw[hyz,hyi]
   have hypar:yz.n.par=x1.n.id:=by rw[hyz,hyp]
   have hyps:yz.n.pass=e.1:=by rw[hyz,hye]
   have hyw:=hd1.wt y hyN;have hst:=ZaV hyw;have hyp0:=hd1.pass y hyN;have hT2:OkT (upN N1 x1.n.id (nwF e.1)) (T1.set i {x1 with n:=nwF e.1 x1.n}):=hT1.one hs1.nd hi (Zcx e.1) (.inr ⟨rfl,.inl rfl⟩);have hs2:SK (upN N1 x1.n.id (nwF e.1)):=hs1.upN (Zcx e.1);have hsm2:SameT T1 (T1.set i {x1 with n:=nwF e.1 x1.n}):=SameT.set hi ⟨rfl,rfl,rfl⟩;have hl2:LB (upN N1 x1.n.id (nwF e.1)):=hd1.lb.ups hs1.nd hxN (hd1.wt x1.n hxN) (hd1.lb.pass x1.n hxN) (by show 0≤e.1∧e.1≤1099511627776;omega);have hj2:(T1.set i {x1 with n:=nwF e.1 x1.n})[j]? =some yz:=by rw[List.getElem?_set_ne hij];exact hj
   have hg2:gt (upN N1 x1.n.id (nwF e.1)) yz.n.par=some (nwF e.1 x1.n):=by rw[Zpu (f:=nwF e.1) (fun _=>rfl),if_pos hypar,hypar,ZbY hs1.nd hxN];rfl
   obtain⟨R,hR,hR2⟩:=ZiK hi;refine Xq<|Xg 11<|Bl 7 4 [(⟨x1.b,7,none⟩,vp x1.ib)] (hasC (up (up (up (Zbe (T:=T1) hm (j:=7) rfl)))) Zaa)<|Bs 6 (Xa (some 24) _ (Zgd jx hjx (by rw[hq];exact ZmB _ x1.ib 60 (e::r))))<|Br 3 3<|Bx 2 (Xn 230 [vi 0,vi 0] (some 6) (fun b=>vp b)) fun b1=>Bs 1 (Xz [(0,vi e.1),(1,vi e.2)])<|Be<|Xq<|Xq<|Xg 2<|Be<|cF<|Xk<|Xq<|Xg 5<|Br 3 2<|Bx 2 (Xn 208 [vp x1.b] (some 39) (fun b=> .slice (s0 b) 1 1)) fun b2=>Xh0 ?_ 2 2
   refine Bx 1 (Xf (E:=wE) 228 (.tmp 37) (.tmp 39) A cap wy [(x1.n.id,x1.b)] (.slice (s0 b2) 1 1) 40 underlying228 (Zre) (Zbr 1 rfl) (by simp only[List.length_cons,List.length_nil];omega)) fun r3=>Be<|PT.pick 1 rfl<|PT.drop<|PT.pick 1 rfl<|PT.pick 3 rfl<|PT.pick 3 rfl<|PT.pick 3 rfl ?_
   refine PT.open1d (hR) ?_;refine Xq<|Xg 6<|Cl 1 5 [(6,vp b1),(0,vp t),(4,vp x1.b),(5,.slice r3.1 ((wy++[(x1.n.id,x1.b)]).length) r3.2),(43,vi e.1),(45,.pointer (sA x1.b 6))] [(⟨b1,0,none⟩,vi e.1)] (hasC (ba 3) Zaa)<|Xh0 ?_ 4 1;refine Bs 0 (Xz [(6,vi e.1)])<|endR<|PT.pick 0 rfl<|PT.pick 4 rfl<|PT.pick 4 rfl<|PT.pick 4 rfl<|PT.pick 4 rfl ?_;refine PT.close1d ({x1 with n:=nwF e.1 x1.n}) (hR2 _) ?_;rw[←hsm2.kp];refine Xq<|Xy0 0 [] 8<|At' [0,1,2,3,4,5] [(⟨t,0,none⟩,.map (some mb)),(⟨b1,1,none⟩,vi e.2)] (hasC (ba 1) (hasC (ba 3) Zaa))<|Xu 6 (ZbW 207 (.tmp 49) (.tmp 51) false mb e.2 ((T1.set i {x1 with n:=nwF e.1 x1.n}).map kp) (.pointer none) (vp yz.b) 3 208 (some 52) (fun _=>Kr) Kr Kr (fun _=>Kr) (fun _=>Kr) underlying207 Kr (fun _=>Kr) (ZbU (H:=(row wE 208 (.slice r3.1 (wy++[(x1.n.id,x1.b)]).length r3.2) (wy++[(x1.n.id,x1.b)])::blk t 210 [.map (some mb)]::Zbl mb ((T1.set i {x1 with n:=nwF e.1 x1.n}).map kp)::blk b1 230 [.int .i64 e.1,.int .i64 e.2]::(Zai (T1.set i {x1 with n:=nwF e.1 x1.n})++H))) (i:=2) rfl) (by rw[Zbz hT2 hs2.nd hj2 hyk];rfl))<|At' [7] [] Zaa<|Xd<|PT.pick 3 rfl<|PT.drop<|Xq<|Xq<|Xy0 0 [13,14] 15<|Xt [0,1,2,3,4,5,6,7,8,9,10,11] [(0,vp t),(4,vp yz.b),(5,.slice r3.1 ((wy++[(x1.n.id,x1.b)]).length) r3.2),(53,vp t),(54,vp yz.b),(59,vi yz.n.pass),(64,vi yz.n.wt)] [(⟨yz.b,3,none⟩,vi yz.n.pass),(⟨yz.b,2,none⟩,vi yz.n.wt)] (hasC (up (up (up (Zbe (T:=T1.set i {x1 with n:=nwF e.1 x1.n}) (gMm hj2) (j:=3) rfl)))) (hasC (up (up (up (Zbe (T:=T1.set i {x1 with n:=nwF e.1 x1.n}) (gMm hj2) (j:=2) rfl)))) Zaa))<|Yo 12 (Xa (some 65) _ (ZgP _ yz.n.pass yz.n.wt (by rw[hyps];omega) (by rw[hyz];exact hyw)))<|Xo 13 (Xa (some 66) _ (Zr0 (fun H w=>ZgT hT2 hs2 hl2 hj2 hg2 (P:=yz.n.pass+ZaH yz.n.wt) (by rw[hyps,hyz];omega) H t mb w))) fun(T':{T':List Nd//OkT (upN (upN N1 x1.n.id (nwF e.1)) yz.n.id (psF (yz.n.pass+ZaH yz.n.wt))) T'∧SameT (T1.set i {x1 with n:=nwF e.1 x1.n}) T'∧SK (upN (upN N1 x1.n.id (nwF e.1)) yz.n.id (psF (yz.n.pass+ZaH yz.n.wt)))∧LB (upN (upN N1 x1.n.id (nwF e.1)) yz.n.id (psF (yz.n.pass+ZaH yz.n.wt)))})=>Yo 14 (Zsh (.bool false) (some 67) (fun _=>Kr))<|Xd<|cF<|Xk ?_
   refine Zep 0 Kr Kr ?_;obtain⟨T3,hT3,hsm3,hs3,hl3⟩:=T';obtain⟨y3,hy3,hy3k,hy3b,_⟩:=hsm3.at hj2;rw[show yz.b=y3.b by rw[hy3b]];exact Xp _ (Zen (hK k ⟨T3,y3,wy++[(x1.n.id,x1.b)],r3.1,r3.2⟩ (by omega) ⟨⟨⟨_,hT3,hs3,(hr1.ups (Zcx e.1)).ups (Zcw _),by simp only;rw[hy3k,hyz,hye]at*;exact hd2,by simp only;rw[hdn,ZbL,hly];simp only[List.map_append];rw[hy3k,hyz,hye];rfl⟩,(hsm.trans hsm2).trans hsm3,by simp only;intro e' he';rcases List.mem_append.1 he' with he'|he';exact(hon.same (hsm2.trans hsm3)) e' he';(simp at he';subst he';exact(OnT.same (T:=T1) (wy:=[(x1.n.id,x1.b)]) (fun e he=>by simp at he;subst he;exact⟨i,x1,hi,rfl,rfl⟩) (hsm2.trans hsm3)) _ (by simp)),⟨j,hy3⟩,by simp only;rw[hy3k,hyz];omega,by simp only;rw[hy3k,hyz,List.length_append,List.length_singleton];omega⟩,hrdy⟩))
 ·intro K hK;refine Xq<|Xg 6<|Bl 2 4 [(⟨t,0,none⟩,.map (some mb))] (hasC (ba 0) Zaa)<|Bs 1 (Zav (ZbW 207 (.tmp 11) (.const (.int .i64 0)) false mb 0 (T.map kp) (.pointer none) (vp z0.b) 3 208 (some 12) (fun _=>Kr) Kr Kr (fun _=>Kr) (fun _=>Kr) underlying207 Kr (fun _=>Kr) (ZbU (H:=(blk t 210 [.map (some mb)]::Zbl mb (T.map kp)::(Zai T++H))) (i:=1) rfl) (by rw[Zbz hT hsk.nd hi0 hz0k];rfl)))<|Be<|Xq<|Xq<|Xg 6<|Bm [(⟨z0.b,5,none⟩,.bool z0.n.rdy)] (hasC (up (up (Zbe (T:=T) hz0m (j:=5) rfl))) Zaa)<|Xc (!z0.n.rdy) (fun h1=>?_) (fun h1=>?_)
  ·have hrdy:r0.rdy=false:=by rw[←hz0];simpa using h1
   have hrn:Zcd N=((0,false),N):=by rw[Zcd,hg0];simp only[hrdy,Bool.false_eq_true,if_false]
   exact Xq<|Xg 2<|Be<|Xv (Zab (ZcR (Y0 (.tuple #[vi 0,.bool false]) fun w hs=>⟨⟨T,by rw[hrn];exact hT,SameT.refl T⟩,by show _=Ending.returned (.tuple #[.int .i64 (Zcd N).1.1,.bool (Zcd N).1.2]);rw[hrn],hs⟩)))
  ·have hrdy:r0.rdy=true:=by rw[←hz0];simpa using h1
   refine Xk<|Xq<|Xg 1<|Be<|Xq ?_;refine ZcY Kr ?_;refine PT.rowNil wE 208 ?_;refine Xp [(0,vp t),(4,vp z0.b),(5,.slice none 0 0)] ?_;refine ZeC Kr (hK 6 ⟨T,z0,[],none,0⟩ ⟨⟨⟨N,hT,hsk,hrk,hw.dn rk _,by simp only[hz0k];rfl⟩,SameT.refl T,fun _ h=>by simp at h,⟨i0,hi0⟩,by simp only;rw[hz0k,←hr00,(hrk _ hr0).1 hr00],by simp only;rw[hz0k,←hr00,(hrk _ hr0).1 hr00];rfl⟩,hrdy⟩)
inductive Bel (N:List Nr):Int→Int→Prop
 |refl (k:Int):Bel N k k
 |step {k t:Int} {y:Nr}:y∈N→y.par=k→Bel N y.id t→Bel N k t
structure Still (g:Nr→Nr):Prop where
 sk:Skel g
 rdy:∀x,(g x).rdy=x.rdy
 wt:∀x,(g x).wt=x.wt
theorem Still.same :Still (fun x=>x):=⟨Skel.same,fun _=>rfl,fun _=>rfl⟩
theorem Still.comp {f g:Nr→Nr}(hf:Still f)(hg:Still g):Still (fun x=>g (f x)):=⟨hf.sk.comp hg.sk,fun x=>by rw[hg.rdy,hf.rdy],fun x=>by rw[hg.wt,hf.wt]⟩
theorem Still.ite {k:Int}{f:Nr→Nr}(hf:Still f):Still (fun x=>if x.id==k then f x else x):=⟨Zbm hf.sk,fun x=>by split;exact hf.rdy x;rfl,fun x=>by split;exact hf.wt x;rfl⟩
theorem ZdZ (P:Int):Still (nwF P):=⟨Zcx P,fun _=>rfl,fun _=>rfl⟩
theorem Ze5 (P:Int):Still (psF P):=⟨Zcw P,fun _=>rfl,fun _=>rfl⟩
theorem ZlS (k P:Int):Still (shG k P):=⟨ZbD k P,fun x=>by unfold shG;split<;>rfl,fun x=>by unfold shG;split<;>rfl⟩
theorem Bel.still {N:List Nr}{g:Nr→Nr}(hg:Skel g){k t:Int}(h:Bel (N.map g) k t):Bel N k t:=by
  induction h with
  |refl k=>exact .refl k
  | step hy hp _ ih=>
    obtain⟨v,hv,rfl⟩:=List.mem_map.1 hy;rw[hg.id]at ih;rw[hg.par]at hp;exact .step hv hp ih
theorem KX.still {N:List Nr}{g:Nr→Nr}(hg:Still g){k:Int}:KX (N.map g) k↔KX N k:=by
 constructor
 ·rintro⟨z,hz,h1,h2⟩
  obtain⟨v,hv,rfl⟩:=List.mem_map.1 hz;exact⟨v,hv,by rw[←hg.sk.par,h1],by rw[←hg.rdy,h2]⟩
 ·rintro⟨v,hv,h1,h2⟩
  exact⟨g v,List.mem_map.2 ⟨v,hv,rfl⟩,by rw[hg.sk.par,h1],by rw[hg.rdy,h2]⟩
theorem ZlP {N:List Nr}(hs:SK N){j:Int}{v:Nr}(hv:v∈N)(hj:v.id=j):∃g,Still g∧Za6 N j=N.map g∧(∀z,z.id≠j→(g z).now=z.now)∧(g v).now≤16777216∧
  (∀z,z.par≠j→(g z).pass=z.pass)∧(∀z,z.par=j→(g z).pass=if 16777216<v.now then mxI 0 (z.pass-v.now)else z.pass):=by
 subst hj;by_cases hb:16777216<v.now
 ·refine⟨fun x=>if(shG v.id v.now x).id==v.id then nwF 0 (shG v.id v.now x)else shG v.id v.now x,?_,?_,?_,?_,?_,?_⟩
  ·exact(ZlS _ _).comp (Still.ite (ZdZ 0))
  ·rw[Zc8 hs.nd hv hb,upN,List.map_map];rfl
  ·intro z hz
   have:(shG v.id v.now z).now=z.now:=by unfold shG;split<;>rfl
   have h2:(shG v.id v.now z).id=z.id:=(ZbD _ _).id z;dsimp only;rw[if_neg (by rw[h2];simpa using hz),this]
  ·have h2:(shG v.id v.now v).id=v.id:=(ZbD _ _).id v
   dsimp only;rw[if_pos (by rw[h2];simp)];show(0:Int)≤_;omega
  ·intro z hz
   have:(shG v.id v.now z).pass=z.pass:=by rw[Zjt hz]
   dsimp only;split
   ·exact this
   ·exact this
  ·intro z hz
   have:(shG v.id v.now z).pass=mxI 0 (z.pass-v.now):=by unfold shG;rw[if_pos (by simpa using hz)]
   rw[if_pos hb];dsimp only;split
   ·exact this
   ·exact this
 ·refine⟨fun x=>x,Still.same,by rw[Zc7 hs.nd hv hb];simp,fun _ _=>rfl,?_,fun _ _=>rfl,fun _ _=>by rw[if_neg hb]⟩
  show v.now≤_;omega
theorem Zf0 {rk :Int→Nat} {r:Nat}:∀(way:List Int) {N:List Nr},SK N→DN rk r N→way.Nodup→(∀j∈way,∃v∈N,v.id=j)→(∀z∈N,16777216<z.now→z.id∈way)→
    ∃ g,Still g∧way.foldl Za6 N=N.map g∧DN rk r (N.map g)∧(∀v∈N.map g,v.now≤16777216)∧(∀k,k ∉ way→∀z∈N,z.par=k→(g z).pass=z.pass)∧
      ∀k∈way,∀v∈N,v.id=k→∀z∈N,z.par=k→(g z).pass=if 16777216<v.now then mxI 0 (z.pass-v.now)else z.pass
  | [],N,hs,hd,_,_,hb=>⟨fun x=>x,Still.same,by simp,by simpa using hd,fun v hv=>by
      have hv':v∈N:=by simpa using hv
      have:¬16777216<v.now:=fun h=>by simpa using hb v hv' h
      omega,fun _ _ _ _ _=>rfl,fun k hk=>by simp at hk⟩
  | j ::ws,N,hs,hd,hnd,hin,hb=>by
    obtain⟨hj,hnd'⟩:=List.nodup_cons.1 hnd;obtain⟨v,hv,hvj⟩:=hin j (by simp);obtain⟨g1,s1,e1,n1,n2,p1,p2⟩:=ZlP hs hv hvj;have hs1:SK (N.map g1):=hs.map g1 s1.sk;have hd1:DN rk r (N.map g1):=e1▸(hvj▸hd.shift hs hv);obtain⟨g2,s2,e2,d2,b2,q1,q2⟩:=Zf0 ws hs1 hd1 hnd' (fun i hi=>by
      obtain⟨u,hu,hui⟩:=hin i (by simp[hi]);exact⟨g1 u,List.mem_map.2 ⟨u,hu,rfl⟩,by rw[s1.sk.id,hui]⟩) (fun z hz hzb=>by
      obtain⟨u,hu,rfl⟩:=List.mem_map.1 hz;rw[s1.sk.id];by_cases c:u.id=j
      · have:=nd_eq hs.nd hu hv (by rw[c,hvj]);subst this
        omega
      · rw[n1 u c]at hzb
        rcases List.mem_cons.1 (hb u hu hzb)with h|h
        · exact absurd h c
        · exact h)
    refine⟨fun x=>g2 (g1 x),s1.comp s2,?_,?_,?_,?_,?_⟩
    · rw[List.foldl_cons,e1,e2,List.map_map];rfl
    · rw[show(N.map fun x=>g2 (g1 x))=(N.map g1).map g2 by rw[List.map_map];rfl];exact d2
    · rw[show(N.map fun x=>g2 (g1 x))=(N.map g1).map g2 by rw[List.map_map];rfl];exact b2
    · intro k hk z hz hzk
      have hkj:z.par≠j:=fun e=>hk (by rw[←hzk,e];simp)
      rw[q1 k (fun h=>hk (by simp[h])) (g1 z) (List.mem_map.2 ⟨z,hz,rfl⟩) (by rw[s1.sk.par,hzk]),p1 z hkj]
    · intro k hk u hu huk z hz hzk
      rcases List.mem_cons.1 hk with rfl|hk
      · have:=nd_eq hs.nd hu hv (by rw[huk,hvj]);subst this
        rw[q1 k hj (g1 z) (List.mem_map.2 ⟨z,hz,rfl⟩) (by rw[s1.sk.par,hzk]),p2 z hzk]
      · have hkj:k≠j:=fun e=>hj (e▸hk)
        rw[q2 k hk (g1 u) (List.mem_map.2 ⟨u,hu,rfl⟩) (by rw[s1.sk.id,huk]) (g1 z) (List.mem_map.2 ⟨z,hz,rfl⟩) (by rw[s1.sk.par,hzk]),n1 u (by rw[huk];exact hkj),p1 z (by rw[hzk];exact hkj)]
theorem ZjY {rk : Int→Nat}:∀(f:Nat) {N:List Nr} {x:Nr} {way:List Int},SK N→RK N rk→DN rk (rk x.id) N→x∈N→f+rk x.id=7→(x.thr=true∨KX N x.id)→x.rdy=true→(∀z∈N,z.thr=false→(z.rdy=true↔KX N z.id))→
    way.Nodup→(∀j∈way,(∃v∈N,v.id=j)∧rk j<rk x.id)→(∀z∈N,16777216<z.now→z.id∈way)→
    ∃ g,Still g∧(ZbL f N x.id way).2=N.map g∧DN rk 7 (N.map g)∧(∀v∈N.map g,v.now≤16777216)∧(∃t∈N,t.id=(ZbL f N x.id way).1∧t.thr=true∧t.rdy=true∧Bel N x.id t.id)∧
      ∀k∈way,∀v∈N,v.id=k→∀z∈N,z.par=k→(g z).pass=if 16777216<v.now then mxI 0 (z.pass-v.now)else z.pass
  |0,N,x,way,hs,hr,hd,hx,hf,_,_,_,_,_,_=>by have:=(hr x hx).2.2.1;omega
  | f + 1, N, x,way,hs,hr,hd,hx,hf,hk,hxr,hrd,hnd,hin,hb=>by
    rw[ZbL];cases hl:least (Zcy N x.id)with
    | none=>
      simp only;have hno:¬KX N x.id:=fun h=>(Zem.2 h) (ZbX.1 hl)
      have ht:x.thr=true:=by rcases hk with h|h;exact h;exact absurd h hno
      obtain⟨g,s1,e1,d1,b1,_,q2⟩:=Zf0 way hs hd hnd (fun j hj=>(hin j hj).1) hb;refine⟨g,s1,e1,⟨d1.wt,d1.now,fun z hz hz7=>?_,d1.pass,d1.pu,d1.pn⟩,b1,⟨x,hx,rfl,ht,hxr,.refl _⟩,q2⟩;exact b1 z hz
    | some y=>
      simp only;obtain⟨hy,hmin⟩:=least_some hl;obtain⟨hyN,hyp,hyr⟩:=ZbP.1 hy;obtain⟨hd2,hyb,hyx⟩:=hd.step hs hr hx hyN hyp hyr hmin;have hry:=RK.up hs hr hyN hx hyp.symm;have hxy:x.id≠y.id:=fun e=>by rw[e]at hry;omega
      have e0:upN (upN N x.id fun x=>{x with now:=y.pass}) y.id (fun x=>{x with pass:=y.pass+ZaH y.wt})=N.map (fun z=>(fun z=>if z.id==y.id then psF (y.pass+ZaH y.wt) z else z) ((fun z=>if z.id==x.id then nwF y.pass z else z) z)):=by
        rw[upN,upN,List.map_map];rfl
      have s0:Still (fun z=>(fun z=>if z.id==y.id then psF (y.pass+ZaH y.wt) z else z) ((fun z=>if z.id==x.id then nwF y.pass z else z) z)):=(Still.ite (ZdZ _)).comp (Still.ite (Ze5 _));have hd3:DN rk (rk y.id) (N.map (fun z=>(fun z=>if z.id==y.id then psF (y.pass+ZaH y.wt) z else z) ((fun z=>if z.id==x.id then nwF y.pass z else z) z))):=e0▸hd2;have fy:(fun z=>(fun z=>if z.id==y.id then psF (y.pass+ZaH y.wt) z else z) ((fun z=>if z.id==x.id then nwF y.pass z else z) z)) y=psF (y.pass+ZaH y.wt) y:=by
        simp[Ne.symm hxy]
      have fo:∀z:Nr,z.id≠x.id→z.id≠y.id→(fun z=>(fun z=>if z.id==y.id then psF (y.pass+ZaH y.wt) z else z) ((fun z=>if z.id==x.id then nwF y.pass z else z) z)) z=z:=by
        intro z h1 h2;simp[h1,h2]
      have fx:(fun z=>(fun z=>if z.id==y.id then psF (y.pass+ZaH y.wt) z else z) ((fun z=>if z.id==x.id then nwF y.pass z else z) z)) x=nwF y.pass x:=by
        simp[nwF,hxy]
      rw[e0];generalize(fun z=>(fun z=>if z.id==y.id then psF (y.pass+ZaH y.wt) z else z) ((fun z=>if z.id==x.id then nwF y.pass z else z) z))=g0 at s0 hd3 fy fo fx;have hs3:SK (N.map g0):=hs.map g0 s0.sk;have hr3:RK (N.map g0) rk:=fun z hz=>by
        obtain⟨v,hv,rfl⟩:=List.mem_map.1 hz;rw[s0.sk.id,s0.sk.par,s0.sk.thr];exact hr v hv
      have hy3:psF (y.pass+ZaH y.wt) y∈N.map g0:=fy▸List.mem_map.2 ⟨y,hyN,rfl⟩
      obtain ⟨g,s1,e1,d1,b1,⟨t,ht,hti,htt,htr,htb⟩,q⟩:=ZjY f (N:=N.map g0) (x:=psF (y.pass+ZaH y.wt) y) (way:=way++[x.id]) hs3 hr3 hd3 hy3 (by show f+rk y.id=7;omega)
        (by
          show y.thr=true∨KX (N.map g0) y.id;rw[KX.still s0];by_cases c:y.thr=true
          · exact .inl c
          · exact .inr ((hrd y hyN (by simpa using c)).1 hyr))
        hyr
        (fun z hz ht=>by
          obtain⟨v,hv,rfl⟩:=List.mem_map.1 hz;rw[s0.rdy,s0.sk.id,KX.still s0];exact hrd v hv (by rw[←s0.sk.thr];exact ht))
        (List.nodup_append.2 ⟨hnd,by simp,by
          intro a ha b hb' e;simp at hb';subst hb';subst e;have:=(hin _ ha).2;omega⟩)
        (fun j hj=>by
          show(∃v∈N.map g0,v.id=j)∧rk j<rk y.id;rcases List.mem_append.1 hj with hj|hj
          · obtain⟨⟨v,hv,hvj⟩,hlt⟩:=hin j hj
            exact⟨⟨g0 v,List.mem_map.2 ⟨v,hv,rfl⟩,by rw[s0.sk.id,hvj]⟩,by omega⟩
          · simp at hj;subst hj
            exact⟨⟨g0 x,List.mem_map.2 ⟨x,hx,rfl⟩,s0.sk.id x⟩,by omega⟩)
        (fun z hz hzb=>by
          obtain⟨v,hv,rfl⟩:=List.mem_map.1 hz;rw[s0.sk.id];by_cases c1:v.id=x.id
          · simp[c1]
          · by_cases c2:v.id=y.id
            · have:=nd_eq hs.nd hv hyN c2;subst this
              rw[fy]at hzb;exact List.mem_append_left _ (hb v hv hzb)
            · rw[fo v c1 c2]at hzb
              exact List.mem_append_left _ (hb v hv hzb))
      have ei:ZbL f (N.map g0) y.id (way++[x.id])=ZbL f (N.map g0) (psF (y.pass+ZaH y.wt) y).id (way++[x.id]):=rfl;rw[ei];obtain⟨u,hu,rfl⟩:=List.mem_map.1 ht;refine⟨fun z=>g (g0 z),s0.comp s1,?_,?_,?_,⟨u,hu,by rw[←s0.sk.id u];exact hti,by rw[←s0.sk.thr u];exact htt,by rw[←s0.rdy u];exact htr,?_⟩,?_⟩
      · rw[e1,List.map_map];rfl
      · rw[show(N.map fun z=>g (g0 z))=(N.map g0).map g by rw[List.map_map];rfl];exact d1
      · rw[show(N.map fun z=>g (g0 z))=(N.map g0).map g by rw[List.map_map];rfl];exact b1
      · have:=htb.still s0.sk
        rw[s0.sk.id]at this;exact .step hyN hyp this
      · intro k hk' v hv hvk z hz hzk
        have hkr:=(hin k hk').2;have hkx:k≠x.id:=fun e=>by rw[e]at hkr;omega
        have hky:k≠y.id:=fun e=>by rw[e]at hkr;omega
        have hzy:z.id≠y.id:=fun e=>by
          have:=nd_eq hs.nd hz hyN e;subst this;exact hkx (by rw[←hzk,hyp])
        have hgv:g0 v=v:=fo v (by rw[hvk];exact hkx) (by rw[hvk];exact hky);have hgz:(g0 z).pass=z.pass:=by
          by_cases c:z.id=x.id
          · have:=nd_eq hs.nd hz hx c;subst this
            rw[fx];rfl
          · rw[fo z c hzy]
        have:=q k (List.mem_append_left _ hk') (g0 v) (List.mem_map.2 ⟨v,hv,rfl⟩) (by rw[s0.sk.id,hvk]) (g0 z) (List.mem_map.2 ⟨z,hz,rfl⟩) (by rw[s0.sk.par,hzk]);rw[this,hgv,hgz]
theorem Zgg {N : List Nr} (hw:WFN N) {r:Nr} (hr0:gt N 0=some r) (hrd:r.rdy=true):∃(y:Nr) (id:Int) (g:Nr→Nr),Zcd N=((id,true),N.map g)∧Still g∧WFN (N.map g)∧least (Zcy N 0)=some y∧
    (∃t∈N,t.id=id∧t.thr=true∧t.rdy=true∧Bel N y.id id)∧∃δ:Int,∀z∈N,z.par=0→z.rdy=true→(g z).pass=z.pass+(if z.id=y.id then ZaH y.wt else 0)-δ:=by
  have hs:=hw.sk;obtain⟨rk,hr⟩:=hs.rk;obtain⟨hrN,hri⟩:=ZaL hr0;have hrt:=hs.rt r hrN hri;have hkx:KX N 0:=hri▸(hw.rd r hrN hrt.2).1 hrd;have hrk:rk r.id=1:=(hr r hrN).1 hri;cases hl:least (Zcy N 0)with
  |none=>exact absurd (ZbX.1 hl) (Zem.2 hkx)
  | some y=>
    obtain⟨hy,hmin⟩:=least_some hl;obtain⟨hyN,hyp,hyr⟩:=ZbP.1 hy;have hd:DN rk (rk r.id) N:=hw.dn rk _;obtain⟨hd2,hyb,hyx⟩:=hd.step hs hr hrN hyN (by rw[hyp,hri]) hyr (by rw[hri];exact hmin);have hry:=RK.up hs hr hyN hrN (by rw[hri,hyp]);have hxy:r.id≠y.id:=fun e=>by rw[e]at hry;omega
    have e0:upN (upN N 0 fun x=>{x with now:=y.pass}) y.id (fun x=>{x with pass:=y.pass+ZaH y.wt})=N.map (fun z=>(fun z=>if z.id==y.id then psF (y.pass+ZaH y.wt) z else z) ((fun z=>if z.id==r.id then nwF y.pass z else z) z)):=by
      rw[upN,upN,List.map_map,hri];rfl
    have s0:Still (fun z=>(fun z=>if z.id==y.id then psF (y.pass+ZaH y.wt) z else z) ((fun z=>if z.id==r.id then nwF y.pass z else z) z)):=(Still.ite (ZdZ _)).comp (Still.ite (Ze5 _));have hd3:DN rk (rk y.id) (N.map (fun z=>(fun z=>if z.id==y.id then psF (y.pass+ZaH y.wt) z else z) ((fun z=>if z.id==r.id then nwF y.pass z else z) z))):=by
      rw[←e0,←hri];exact hd2
    have fy:(fun z=>(fun z=>if z.id==y.id then psF (y.pass+ZaH y.wt) z else z) ((fun z=>if z.id==r.id then nwF y.pass z else z) z)) y=psF (y.pass+ZaH y.wt) y:=by simp[Ne.symm hxy]
    have fo:∀z:Nr,z.id≠r.id→z.id≠y.id→(fun z=>(fun z=>if z.id==y.id then psF (y.pass+ZaH y.wt) z else z) ((fun z=>if z.id==r.id then nwF y.pass z else z) z)) z=z:=by
      intro z h1 h2;simp[h1,h2]
    have fx:(fun z=>(fun z=>if z.id==y.id then psF (y.pass+ZaH y.wt) z else z) ((fun z=>if z.id==r.id then nwF y.pass z else z) z)) r=nwF y.pass r:=by simp[nwF,hxy]
    have hrun:Zcd N=(((ZbL 5 (N.map (fun z=>(fun z=>if z.id==y.id then psF (y.pass+ZaH y.wt) z else z) ((fun z=>if z.id==r.id then nwF y.pass z else z) z))) y.id [0]).1,true),(ZbL 5 (N.map (fun z=>(fun z=>if z.id==y.id then psF (y.pass+ZaH y.wt) z else z) ((fun z=>if z.id==r.id then nwF y.pass z else z) z))) y.id [0]).2):=by
      rw[Zcd,hr0];simp only[hrd,if_true];rw[ZbL,hl];simp only;rw[e0];rfl
    rw[hrun];generalize(fun z=>(fun z=>if z.id==y.id then psF (y.pass+ZaH y.wt) z else z) ((fun z=>if z.id==r.id then nwF y.pass z else z) z))=g0 at s0 hd3 fy fo fx;have hs3:SK (N.map g0):=hs.map g0 s0.sk;have hr3:RK (N.map g0) rk:=fun z hz=>by
      obtain⟨v,hv,rfl⟩:=List.mem_map.1 hz;rw[s0.sk.id,s0.sk.par,s0.sk.thr];exact hr v hv
    have hy3:psF (y.pass+ZaH y.wt) y∈N.map g0:=fy▸List.mem_map.2 ⟨y,hyN,rfl⟩;have hrd3:∀z∈N.map g0,z.thr=false→(z.rdy=true↔KX (N.map g0) z.id):=fun z hz ht=>by
      obtain⟨v,hv,rfl⟩:=List.mem_map.1 hz;rw[s0.rdy,s0.sk.id,KX.still s0];exact hw.rd v hv (by rw[←s0.sk.thr];exact ht)
    obtain ⟨g,s1,e1,d1,b1,⟨t,ht,hti,htt,htr,htb⟩,q⟩:=ZjY 5 (N:=N.map g0) (x:=psF (y.pass+ZaH y.wt) y) (way:=[0]) hs3 hr3 hd3 hy3 (by show 5+rk y.id=7;omega)
      (by
        show y.thr=true∨KX (N.map g0) y.id;rw[KX.still s0];by_cases c:y.thr=true
        · exact .inl c
        · exact .inr ((hw.rd y hyN (by simpa using c)).1 hyr)) hyr hrd3 (by simp)
      (fun j hj=>by
        simp at hj;subst hj;exact⟨⟨g0 r,List.mem_map.2 ⟨r,hrN,rfl⟩,by rw[s0.sk.id,hri]⟩,by show rk 0<rk y.id;rw[←hri];omega⟩)
      (fun z hz hzb=>by
        obtain⟨v,hv,rfl⟩:=List.mem_map.1 hz;rw[s0.sk.id];have hvn:=(hw.now v hv).2;by_cases c1:v.id=r.id
        · simp[c1,hri]
        · by_cases c2:v.id=y.id
          · have:=nd_eq hs.nd hv hyN c2;subst this
            rw[fy]at hzb;have:v.now≤16777216:=hvn;have:16777216<v.now:=hzb;omega
          · rw[fo v c1 c2]at hzb;omega)
    obtain⟨u,hu,rfl⟩:=List.mem_map.1 ht;have ei:ZbL 5 (N.map g0) y.id [0]=ZbL 5 (N.map g0) (psF (y.pass+ZaH y.wt) y).id [0]:=rfl;have sA:Still (fun z=>g (g0 z)):=s0.comp s1;have eA:(N.map fun z=>g (g0 z))=(N.map g0).map g:=by rw[List.map_map];rfl
    refine⟨y,(ZbL 5 (N.map g0) y.id [0]).1,fun z=>g (g0 z),by rw[eA,←e1,ei],sA,?_,rfl,⟨u,hu,by rw[←s0.sk.id u];exact hti,by rw[←s0.sk.thr u];exact htt,by rw[←s0.rdy u];exact htr,?_⟩,?_⟩
    · rw[eA]
      refine⟨hs3.map g s1.sk,d1.wt,fun x hx=>⟨(d1.now x hx).1,b1 x hx⟩,d1.pass,fun x hx p hp e=>⟨d1.pu x hx p hp e,d1.pn x hx p hp e⟩,fun x hx ht=>?_⟩;obtain⟨v,hv,rfl⟩:=List.mem_map.1 hx;show(g v).rdy=true↔KX ((N.map g0).map g) (g v).id;rw[s1.rdy,s1.sk.id,KX.still s1];exact hrd3 v hv (by rw[←s1.sk.thr];exact ht)
    · have:=htb.still s0.sk
      rw[show(psF (y.pass+ZaH y.wt) y).id=y.id from rfl,hti]at this;exact this
    · refine⟨if 16777216<y.pass then y.pass else 0,fun z hz hzp hzr=>?_⟩
      have hq:=q 0 (by simp) (g0 r) (List.mem_map.2 ⟨r,hrN,rfl⟩) (by rw[s0.sk.id,hri]) (g0 z) (List.mem_map.2 ⟨z,hz,rfl⟩) (by rw[s0.sk.par,hzp]);have hnow:(g0 r).now=y.pass:=by rw[fx];rfl
      rw[hnow]at hq;have hzr0:z.id≠r.id:=fun e=>by
        have:=nd_eq hs.nd hz hrN e;subst this;rw[hrt.1]at hzp;omega
      have hzl:y.pass≤z.pass:=by
        have hl2:=hmin z (ZbP.2 ⟨hz,hzp,hzr⟩);have:¬z.pass<y.pass:=fun c=>by
          have:ZcI z y=true:=by simp[ZcI,c]
          rw[this]at hl2;cases hl2
        omega
      have hst:=ZaV (hw.wt y hyN);have hgz:(g0 z).pass=z.pass+(if z.id=y.id then ZaH y.wt else 0):=by
        by_cases c:z.id=y.id
        · have:=nd_eq hs.nd hz hyN c;subst this
          rw[fy,if_pos rfl];rfl
        · rw[fo z hzr0 c,if_neg c];omega
      show(g (g0 z)).pass=_;rw[hq,hgz];by_cases c:16777216<y.pass
      · rw[if_pos c,if_pos c]
        unfold mxI;split<;>split<;>omega
      · rw[if_neg c,if_neg c];omega
end Go.Proofs.YtfhkgohokbkgiaaGreatDoor
namespace Go.Proofs.YtfhkgohokbkgiaaGreatDoor
open Go.RowKit Go.ChangeShapes Go.WideShapes G
def ZnA (W:World)(e:Ending)(w':World):Prop:=e= .returned (.bool true)∧Below W.heap.size W w'
theorem Zqy {ι:Type}{P:Program}{f:FuncId}{vs:Array Value}{W:World}{Hx:ι→List SP}(hs:∀x w,Sat w (Hx x)→Sat w [old W])(h:Calls P f vs W (Ret (fun _:ι=> .bool true) Hx)):Calls P f vs W (ZnA W):=
 h.mono fun _ w' ⟨x,he,hx⟩=>⟨he,(hs x w' hx).below (i:=0) rfl⟩
theorem ZgJ {k:IntKind}{x:Int}(h:(Lit.int k x).wf=true):k.min≤x∧x≤k.max:=by
 have h2:(decide (k.min≤x)&&decide (x≤k.max))=true:=h;rw[Bool.and_eq_true,decide_eq_true_eq,decide_eq_true_eq]at h2;exact h2
end Go.Proofs.YtfhkgohokbkgiaaGreatDoor
namespace Go.Proofs.YtfhkgohokbkgiaaGreatDoor
open Go.RowKit G Tryz
theorem Zp6 (b ib:Nat):OkT [rootN] [Zp7 b ib]:=by
 refine⟨rfl,fun x hx=>?_,fun x hx p k=>?_⟩
 ·simp at hx;subst hx;exact List.Pairwise.nil
 ·simp at hx;subst hx
  constructor
  ·intro h;cases h
  ·rintro⟨y,hy,h,_⟩
   simp at hy;subst hy;cases h
section
variable {N N':List Nr}{T:List Nd}
end
theorem Zpd {N:List Nr}(hw:WFN N):WFN (Zcd N).2:=by
 cases hg:gt N 0 with
 |none=>rw[Zcd,hg];exact hw
 |some r=>
  cases hr:r.rdy with
  |true=>obtain⟨y,id,g,h1,_,h3,_⟩:=Zgg hw hg hr;rw[h1];exact h3
  |false=>rw[Zcd,hg];simp only[hr,Bool.false_eq_true,if_false];exact hw
theorem Sat.behind {l H:List SP}{w:World}(h:Sat w (l++H)):Sat w H:=by
 induction l with
 |nil=>exact h
 |cons P l ih=>exact ih h.tail
theorem ZcH (H:List SP)(w_:Int):US 146 #[vi w_] H (.bool (isW w_)):=by
 refine eG func146 9 ?_;refine Xq<|Xg 1<|Be<|Xq (Xg 7 (Cr 4 3 [(0,vi w_),(2,.bool false),(5,.bool (decide (w_≥1)))] ?_));refine(Xs0 1 3 [(2,.bool false),(8,.bool ((decide (w_≥1))&& (decide (w_≤16))))] ?_ ?_:RT _ _ _ _ _ _ 4 _)
 ·cases hg3:(decide (w_≥1))with
  |true=>
   refine Ae 3 ?_;exact mA ()
  |false=>
   refine Ae 3 ?_;exact mA ()
 exact Be<|Xv (Y0 (.bool ((decide (w_≥1))&& (decide (w_≤16)))) fun w hs=>⟨(),rfl,hs⟩)
theorem Zgn (H:List SP)(w_:Int):US 106 #[vi w_] H (vi (ZaH w_)):=by
 refine eG func106 8 ?_;refine Xq<|Xg 1<|Be<|Xq<|Xq<|Xg 3<|Br 2 1<|Bs 1 (Xa (some 4) _ (ZcH _ w_))<|Be<|Xc (!(isW w_)) (fun h1=>?_) (fun h1=>?_)
 ·exact Xq<|Xg 1<|Be<|Xv (Zab (Y0 (vi 0) fun w hs=>⟨(),by rw[ZaH,if_neg (by simpa using h1)],hs⟩))
 ·refine Xk (Xq (Xg 3 (Br 2 1 ?_)));have hw:isW w_=true:=by simpa using h1
  exact Bs 1 (Zav (ZoQ .quo 3 3 (.const (.int .i64 720720)) (.tmp 6) (.int .i64 720720) (.int .i64 w_) (.int .i64 (IntKind.i64.wrap ((720720:Int).tdiv w_))) (some 7) (fun _=>Kr) Kr Kr (fun _=>Kr) (fun _=>Kr) (Zst (t':=0) (by have:=Zdi hw;omega))))<|Be<|Xv (Y0 (vi (IntKind.i64.wrap ((720720:Int).tdiv w_))) fun w hs=>⟨(),by rw[show IntKind.i64.wrap ((720720:Int).tdiv w_)=ZaH w_ from ?_];rw[ZaH,if_pos hw];have h2:=ZaV hw;rw[ZaH,if_pos hw]at h2;exact w64 (by omega) (by omega),hs⟩)
def skr (x:Nr):Int×Int×Int×Bool×Bool:=(x.id,x.par,x.wt,x.thr,x.rdy)
theorem Still.skr {g:Nr→Nr}(h:Still g)(N:List Nr):(N.map g).map skr=N.map skr:=by
 rw[List.map_map];refine List.map_congr_left fun x _=>?_
 simp only[Function.comp,Go.Proofs.YtfhkgohokbkgiaaGreatDoor.skr,h.sk.id,h.sk.par,h.sk.thr,h.rdy,h.wt]
def ps (N:List Nr)(k:Int):Int:=((gt N k).map (·.pass)).getD 0
theorem ZrD {N:List Nr}(hn:(N.map (·.id)).Nodup){z:Nr}(hz:z∈N):ps N z.id=z.pass:=by rw[ps,ZbY hn hz];rfl
theorem ZgC {N:List Nr}{par id wt:Int}{thr:Bool}{p:Nr}(hw:isW wt=true)(hid:1≤id)(hp:gt N par=some p)(hpt:p.thr=false)(hno:gt N id=none)(hd:thr=true∨Za2 6 N par<4)(hl:N.length<60):Zbs N par id wt thr=(0,N++[⟨id,par,wt,p.now,thr,false,0⟩]):=by
 rw[Zbs,if_neg (by rw[hw];simp;omega),hp];simp only;rw[if_neg (by rw[hpt];simp),if_neg (by rw[hno];simp),if_neg (by rintro⟨h1,h2⟩;rcases hd with h|h;(rw[h1]at h;cases h);omega),if_neg (by omega)]
structure Wk (N:List Nr)(g:Nr→Nr):Prop where
 sk:Skel g
 wt:∀x,(g x).wt=x.wt∧(g x).now=x.now
 rdy:∀x,x.rdy=true→(g x).rdy=true
 zero:(∀z∈N,z.pass=0∧z.now=0)→∀z∈N,(g z).pass=0
theorem Wk.same (N:List Nr):Wk N (fun x=>x):=⟨Skel.same,fun _=>⟨rfl,rfl⟩,fun _ h=>h,fun h z hz=>(h z hz).1⟩
theorem Zib : ∀ (f:Nat) (N:List Nr) (k:Int),∃g,Wk N g∧Zbk f N k=N.map g∧(0<f→∀z∈N,(N.map (·.id)).Nodup→z.id=k→(g z).rdy=true)
  |0,N,k=>⟨fun x=>x,Wk.same N,by simp[Zbk],fun h=>by omega⟩
  | f + 1,N,k=>by
    rw[Zbk];cases hg:gt N k with
    |none=>exact⟨fun x=>x,Wk.same N,by simp,fun _ z hz _ e=>absurd e (ZaX.1 hg z hz)⟩
    | some x0=>
      obtain⟨hx0,hk0⟩:=ZaL hg;simp only;by_cases hr:x0.rdy=true
      · rw[if_pos hr]
        exact⟨fun x=>x,Wk.same N,by simp,fun _ z hz hn e=>by have:=nd_eq hn hz hx0 (by rw[e,hk0]);subst this;exact hr⟩
      · rw [if_neg hr]
        cases hp:gt N x0.par with
        | none=>
          refine⟨fun x=>if x.id==k then {x with rdy:=true}else x,⟨Zbm (f:=fun x=>{x with rdy:=true}) skF,fun x=>by by_cases c:(x.id==k)=true<;>simp[c],fun x h=>by by_cases c:(x.id==k)=true<;>simp[c,h],fun h z hz=>by have:=(h z hz).1;by_cases c:(z.id==k)=true<;>simp[c,this]⟩,rfl,fun _ z hz _ e=>by simp[e]⟩
        | some p=>
          obtain⟨hpN,_⟩:=ZaL hp;simp only;have w0:Wk N (fun x=>if x.id==k then wkF p.now x else x):=⟨Zbm (Zbg p.now),fun x=>by by_cases c:(x.id==k)=true<;>simp[c,wkF],fun x h=>by by_cases c:(x.id==k)=true<;>simp[c,wkF,h],fun h z hz=>by
            have h1:=(h z hz).1;have h2:=(h p hpN).2;by_cases c:(z.id==k)=true
            · simp only[c,if_true,wkF,h1,h2];rfl
            · simp[c,h1]⟩
          obtain⟨g,hw,he,_⟩:=Zib f (upN N k (wkF p.now)) x0.par;refine⟨fun x=>g (if x.id==k then wkF p.now x else x),⟨w0.sk.comp hw.sk,fun x=>by rw[(hw.wt _).1,(hw.wt _).2];exact w0.wt x,fun x h=>hw.rdy _ (w0.rdy x h),fun h z hz=>?_⟩,?_,fun _ z hz _ e=>?_⟩
          · refine hw.zero (fun v hv=>?_) _ (List.mem_map.2 ⟨z,hz,rfl⟩)
            obtain⟨u,hu,rfl⟩:=List.mem_map.1 hv;exact⟨w0.zero h u hu,by rw[(w0.wt u).2];exact(h u hu).2⟩
          · have e:Zbk f (upN N k fun x=>{x with rdy:=true,pass:=mxI x.pass p.now}) x0.par=_:=he
            rw[e,upN,List.map_map];rfl
          · exact hw.rdy _ (by simp[e,wkF])
namespace G
def Zaz :List SP→SP
 | []=>Zcl True
 |P::l=>two P (Zaz l)
theorem Sat.openMany :∀{l H:List SP} {w:World},Sat w (Zaz l::H)→Sat w (l++H)
 | [],_,_,h=>(Sat.openPure h).2
 |P::l,H,w,h=>Sat.perm (List.perm_middle (a:=P) (l₁:=l) (l₂:=H)) (Sat.openMany (l:=l) (H:=P::H) (Sat.perm (List.Perm.swap _ _ _) (Sat.openTwo h)))
theorem Sat.closeMany :∀{l H:List SP} {w:World},Sat w (l++H)→Sat w (Zaz l::H)
 | [],_,_,h=>Sat.closePure trivial h
 |P::l,H,w,h=>Sat.closeTwo (Sat.perm (List.Perm.swap _ _ _) (Sat.closeMany (l:=l) (H:=P::H) (Sat.perm (List.perm_middle (a:=P) (l₁:=l) (l₂:=H)).symm h)))
end G
def Za4 (t:Nat)(N:List Nr):SP:=exS fun p:Nat×List Nd=>two (Zcl (OkT N p.2∧WFN N)) (Zaz (blk t 210 [.map (some p.1)]::Zbl p.1 (p.2.map kp)::Zai p.2))
theorem Sat.openTree {t:Nat}{N:List Nr}{H:List SP}{w:World}(h:Sat w (Za4 t N::H)):∃mb T,OkT N T∧WFN N∧Sat w (blk t 210 [.map (some mb)]::Zbl mb (T.map kp)::(Zai T++H)):=by
 obtain⟨⟨mb,T⟩,h⟩:=Sat.openEx h;obtain⟨⟨hT,hw⟩,h⟩:=Sat.openPure (Sat.openTwo h);exact⟨mb,T,hT,hw,Sat.openMany h⟩
theorem Sat.closeTree {t mb:Nat}{N:List Nr}{T:List Nd}{H:List SP}{w:World}(hT:OkT N T)(hw:WFN N)(h:Sat w (blk t 210 [.map (some mb)]::Zbl mb (T.map kp)::(Zai T++H))):Sat w (Za4 t N::H):=
 Sat.closeEx (mb,T) (Sat.closeTwo (Sat.closePure ⟨hT,hw⟩ (Sat.closeMany (l:=blk t 210 [.map (some mb)]::Zbl mb (T.map kp)::Zai T) h)))
theorem Zac {α:Type}{E:Enc α}{T:TypeId}{H:List SP}(i:Nat){b o m k:Nat}{xs:List α}(hi:H[i]? =some (row E T (.slice (some ⟨b,o,none⟩) m k) xs)){J j:Nat}{x:α}{u:Value}(hx:xs[J]? =some x)(hu:(E.enc x)[j]? =some u):∀w,Sat w H→w.cell? ⟨b,o+J*E.k+j,none⟩=some u:=by
 intro w hs;obtain⟨G,hG⟩:=(Sat.pick i hi hs).head;have hme:m=xs.length:=hG.lenEq;subst hme;exact(Zad (A:=some ⟨b,o,none⟩) (k:=k) (E:=E) (T:=T) (xs:=xs) i hi).cell rfl hx hu w hs
section
variable (H :List SP)(t:Nat)(N:List Nr)
theorem ZsC :U1 77 #[] H (ι:=Nat) (fun t=>vp t) fun t=>Za4 t [rootN]::H:=fun w hs=>
 (ZlK H w hs).mono fun e w' ⟨x,he,hx⟩=>⟨x.1,he,Sat.closeTree (Zp6 x.2.2.1 x.2.2.2) Ze1 hx⟩
theorem ZsD (par id wt:Int)(thr:Bool):U0 173 #[vp t,vi par,vi id,vi wt,.bool thr] (Za4 t N::H) (Zal (Zbs N par id wt thr).1) (Za4 t (Zbs N par id wt thr).2::H):=fun w hs=>by
 obtain⟨mb,T,hT,hw,hs⟩:=Sat.openTree hs;exact(ZoX hT hw.sk H t mb par id wt thr w hs).mono fun e w' ⟨⟨T',hT'⟩,he,hx⟩=>⟨(),he,Sat.closeTree hT' (Zf2 hw par id wt thr) hx⟩
theorem ZeQ (id:Int)(r:Bool):U0 60 #[vp t,vi id,.bool r] (Za4 t N::H) (Zal (Zag N id r).1) (Za4 t (Zag N id r).2::H):=fun w hs=>by
 obtain⟨mb,T,hT,hw,hs⟩:=Sat.openTree hs;exact(ZkF hT hw.sk hw.lb H t mb id r w hs).mono fun e w' ⟨⟨T',hT',_⟩,he,hx⟩=>⟨(),he,Sat.closeTree hT' (Zcv hw id r) hx⟩
theorem ZnN (id W:Int):U0 185 #[vp t,vi id,vi W] (Za4 t N::H) (Zal (Zaq N id W).1) (Za4 t (Zaq N id W).2::H):=fun w hs=>by
 obtain⟨mb,T,hT,hw,hs⟩:=Sat.openTree hs;exact(Zh8 hT hw H t mb id W w hs).mono fun e w' ⟨⟨T',hT',_⟩,he,hx⟩=>⟨(),he,Sat.closeTree hT' (ZeO hw id W) hx⟩
theorem ZnO (id:Int):U0 181 #[vp t,vi id] (Za4 t N::H) (Zal (Zap N id).1) (Za4 t (Zap N id).2::H):=fun w hs=>by
 obtain⟨mb,T,hT,hw,hs⟩:=Sat.openTree hs;exact(ZiF hT hw.sk hw.lb H t mb id w hs).mono fun e w' ⟨⟨T',hT'⟩,he,hx⟩=>⟨(),he,Sat.closeTree hT' (Zg8 hw id) hx⟩
theorem ZsB :U0 70 #[vp t] (Za4 t N::H) (.tuple #[vi (Zcd N).1.1,.bool (Zcd N).1.2]) (Za4 t (Zcd N).2::H):=fun w hs=>by
 obtain⟨mb,T,hT,hw,hs⟩:=Sat.openTree hs;exact(Zn2 hT hw H t mb w hs).mono fun e w' ⟨⟨T',hT',_⟩,he,hx⟩=>⟨(),he,Sat.closeTree hT' (Zpd hw) hx⟩
theorem ZlI (hid:∀x∈N,x.id≤9223372036854775807):U1 57 #[vp t] (Za4 t N::H) (ι:=AN) (fun x=> .slice x.1 (Zaw N).length x.2) fun x=>row nE 147 (.slice x.1 (Zaw N).length x.2) (Zaw N)::Za4 t N::H:=fun w hs=>by
 obtain⟨mb,T,hT,hw,hs⟩:=Sat.openTree hs;refine(ZkN hT hw.sk hid H t mb w hs).mono fun e w' ⟨x,he,hx⟩=>⟨x,he,?_⟩
 have h1:=Sat.perm (List.perm_middle (a:=row nE 147 (.slice x.1 (Zaw N).length x.2) (Zaw N)) (l₁:=blk t 210 [.map (some mb)]::Zbl mb (T.map kp)::Zai T) (l₂:=H)).symm hx;exact Sat.perm (List.Perm.swap _ _ _) (Sat.closeTree hT hw h1)
theorem Zo6 (id:Int):US 58 #[vp t,vi id] (Za4 t N::H) (.tuple #[ndV ((gt N id).getD ZbE),.bool (gt N id).isSome]):=fun w hs=>by
 obtain⟨mb,T,hT,hw,hs⟩:=Sat.openTree hs;exact(Zmv hT hw.sk.nd H t mb id w hs).mono fun e w' ⟨_,he,hx⟩=>⟨(),he,Sat.closeTree hT hw hx⟩
end
section
variable {N N':List Nr}(H:List SP)(t:Nat)
theorem Zkg {id:Int}{r:Bool}(h:Zag N id r=(0,N')):U0 60 #[vp t,vi id,.bool r] (Za4 t N::H) .nilIface (Za4 t N'::H):=by
 have:=ZeQ H t N id r;rw[h]at this;exact this
end
end Go.Proofs.YtfhkgohokbkgiaaGreatDoor
