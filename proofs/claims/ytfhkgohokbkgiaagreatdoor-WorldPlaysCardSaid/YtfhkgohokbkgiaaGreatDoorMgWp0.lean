/- Texts put together: Words of our own for the walks: rows of elements in memory, what may have changed. Words of our own for the walks: append, cut, index over rows. Words of our own for the walks: copy, clear, append of zeros, at rows of elements. Regions that draw their order: a condition held till the last operation, which may break it. Walking by reckoning: frames by what is known of them, code by its place, memory by owned parts. Maps of numbers in G. Maps of numbers in G: gone through; an entry that Zcc; how many. slices.Insert of one element at a row of sleepers. slices.Delete of one element at a row of sleepers. Slices of ints that are read, in every world of some memory. Arguments that read as data, opened by their types. Slices that are read; labels, domains, configurations as values. G: append to rows, rows and blocks. passq: comparing, finding; New, Min, Len, Pass. passq: New, isPass, Min, Len, Pass. passq: the search for a place; insert. passq: insert, Put, Drop, Rekey. math/bits.Len of small numbers: its walk. slices.SortFunc of entries that are in order: it changes nothing. Conditions: the row is in order. Conditions: none. -/
import Derived.Test.YtfhkgohokbkgiaaGreatDoorProg
import Derived.WalkKit
import Derived.WalkLawsBesides
import Derived.WalkSpells
import Derived.Lib.Hide
import Derived.Deep.LoopGhost
import Derived.Deep.QuietTactic
import Derived.BigQuiet
import Derived.RowKit3
import Derived.Lib.Overlaps
import Derived.Laws.Externs
import Derived.Deep.RegionLaw
import Derived.ScopeJumps
import Derived.Deep.RegionHeld3
import Derived.BigRegion
import Derived.MapKept
import Derived.WideLaws
import Derived.Laws.IdiomRangeMap
import Derived.ChangeArms
import Derived.ChangeSlices
import Derived.WideShapes
import Derived.SizedLaws
import Derived.Lib.BitFns
import Derived.Lib.Tables
set_option linter.unusedSimpArgs false
set_option linter.unusedVariables false
set_option maxRecDepth 100000
set_option maxHeartbeats 1000000
namespace Go.Proofs.YtfhkgohokbkgiaaGreatDoor
open Go.RowKit
structure Upd (F:Nat→Prop)(w w':World):Prop where
 os:w'.os=w.os
 tape:w'.tape=w.tape
 output:w'.output=w.output
 size:w.heap.size≤w'.heap.size
 keep:∀b,b<w.heap.size→¬F b→w'.heap[b]? =w.heap[b]?
def NoB :Nat→Prop:=fun _=>False
def ZbN (b:Nat):Nat→Prop:=fun x=>x=b
def OrB (F G:Nat→Prop):Nat→Prop:=fun x=>F x∨G x
theorem Upd.refl (F:Nat→Prop)(w:World):Upd F w w:=⟨rfl,rfl,rfl,Nat.le_refl _,fun _ _ _=>rfl⟩
theorem Upd.mono {F G:Nat→Prop}{w w':World}(h:Upd F w w')(hs:∀b,b<w.heap.size→F b→G b):Upd G w w':=
 ⟨h.os,h.tape,h.output,h.size,fun b hb hn=>h.keep b hb (fun hf=>hn (hs b hb hf))⟩
theorem Upd.trans {F:Nat→Prop}{a b c:World}(h:Upd F a b)(k:Upd F b c):Upd F a c:=
 ⟨k.os.trans h.os,k.tape.trans h.tape,k.output.trans h.output,Nat.le_trans h.size k.size,fun i hi hn=>(k.keep i (Nat.lt_of_lt_of_le hi h.size) hn).trans (h.keep i hi hn)⟩
theorem Upd.then {F G:Nat→Prop}{a b c:World}(h:Upd F a b)(k:Upd G b c)(hs:∀x,x<a.heap.size→G x→F x):Upd F a c:=
 ⟨k.os.trans h.os,k.tape.trans h.tape,k.output.trans h.output,Nat.le_trans h.size k.size,fun i hi hn=>(k.keep i (Nat.lt_of_lt_of_le hi h.size) (fun hg=>hn (hs i hi hg))).trans (h.keep i hi hn)⟩
theorem Upd.below {w w':World}(h:Upd NoB w w'):Below w.heap.size w w':=⟨h.os,h.tape,h.output,h.size,fun b hb=>h.keep b hb (fun x=>x)⟩
theorem Upd.ofBelow {w w':World}{F:Nat→Prop}(h:Below w.heap.size w w'):Upd F w w':=⟨h.os,h.tape,h.output,h.size,fun b hb _=>h.block b hb⟩
theorem Upd.drew (F:Nat→Prop)(w:World):Upd F w w.drew:=⟨rfl,rfl,rfl,Nat.le_refl _,fun _ _ _=>rfl⟩
theorem Upd.alloc (F:Nat→Prop)(w:World)(o:Obj):Upd F w (w.alloc o):=⟨rfl,rfl,rfl,by simp,fun b hb _=>Below.heap_alloc w o b hb⟩
theorem Upd.setCell {F:Nat→Prop}(w:World)(a:Addr)(v:Value)(h:F a.block):Upd F w (w.setCell a v):=
 ⟨rfl,rfl,rfl,by simp[World.setCell],fun b _ hn=>Below.heap_setCell w a v b (fun e=>hn (e▸h))⟩
theorem Upd.lt {F:Nat→Prop}{w w':World}(h:Upd F w w'){b:Nat}(hb:b<w.heap.size):b<w'.heap.size:=Nat.lt_of_lt_of_le hb h.size
def Blk (w:World)(b:Nat)(T:TypeId)(cs:List Value):Prop:=w.heap[b]? =some (.cells cs.toArray T (0,0))
theorem Blk.lt {w:World}{b:Nat}{T:TypeId}{cs:List Value}(h:Blk w b T cs):b<w.heap.size:=lt_of_block h
theorem Blk.cell {w:World}{b:Nat}{T:TypeId}{cs:List Value}(h:Blk w b T cs)(j:Nat):w.cell? ⟨b,j,none⟩=cs[j]? :=by
 rw[cell_of_row w b j _ T (0,0) h];simp
theorem Blk.frozen {w:World}{b:Nat}{T:TypeId}{cs:List Value}(h:Blk w b T cs)(j:Nat):w.frozen? ⟨b,j,none⟩=false:=by
 have h':w.heap[b]? =some (.cells cs.toArray T (0,0)):=h;simp[World.frozen?,h']
theorem Blk.upd {w w':World}{F:Nat→Prop}{b:Nat}{T:TypeId}{cs:List Value}(h:Blk w b T cs)(u:Upd F w w')(hn:¬F b):Blk w' b T cs:=
 (u.keep b h.lt hn).trans h
theorem Blk.set {w:World}{b:Nat}{T:TypeId}{cs:List Value}(h:Blk w b T cs)(j:Nat)(v:Value):Blk (w.setCell ⟨b,j,none⟩ v) b T (cs.set j v):=by
 have h':w.heap[b]? =some (.cells cs.toArray T (0,0)):=h;simp[Blk,World.setCell,Array.getElem?_modify,h']
theorem Blk.new (w:World)(T:TypeId)(cs:List Value):Blk (w.alloc (.cells cs.toArray T)) w.heap.size T cs:=heap_alloc_new w _
structure Enc (α:Type) where
 k:Nat
 kpos:0<k
 enc:α→List Value
 len:∀a,(enc a).length=k
 one:∀a,∀u∈enc a,u.oneCell'=true
variable {α :Type}
def Enc.flat (E:Enc α)(xs:List α):List Value:=xs.flatMap E.enc
theorem Enc.flat_nil (E:Enc α):E.flat []=[]:=rfl
theorem Enc.flat_append (E:Enc α)(xs ys:List α):E.flat (xs++ys)=E.flat xs++E.flat ys:=by simp[Enc.flat]
theorem Enc.flat_cons (E:Enc α)(x:α)(ys:List α):E.flat (x::ys)=E.enc x++E.flat ys:=by simp[Enc.flat]
theorem Enc.flat_one (E:Enc α)(x:α):E.flat [x]=E.enc x:=by simp[Enc.flat]
theorem Enc.flat_length (E:Enc α)(xs:List α):(E.flat xs).length=xs.length*E.k:=by
 induction xs with
 |nil=>simp[Enc.flat]
 |cons x xs ih=>rw[Enc.flat_cons,List.length_append,ih,E.len,List.length_cons,Nat.add_mul];omega
theorem Enc.flat_one' (E:Enc α)(xs:List α):∀u∈E.flat xs,u.oneCell'=true:=by
 intro u hu;obtain⟨x,_,hx⟩:=List.mem_flatMap.1 hu;exact E.one x u hx
theorem Enc.flat_get (E:Enc α):∀(xs:List α) (i j:Nat) (x:α),xs[i]? =some x→j<E.k→(E.flat xs)[i*E.k+j]? =(E.enc x)[j]?
  | [],i,j,x,h,_=>by simp at h
  | y::xs,0,j,x,h,hj=>by
    simp at h;subst h;rw[Enc.flat_cons,Nat.zero_mul,Nat.zero_add,List.getElem?_append_left (by rw[E.len];exact hj)]
  | y::xs,i+1,j,x,h,hj=>by
    rw[Enc.flat_cons,List.getElem?_append_right (by rw[E.len,Nat.add_mul];omega),E.len];have:(i+1)*E.k+j-E.k=i*E.k+j:=by rw[Nat.add_mul];omega
    rw[this];exact Enc.flat_get E xs i j x (by simpa using h) hj
theorem Enc.flat_take (E:Enc α):∀(xs:List α) (n:Nat),(E.flat xs).take (n*E.k)=E.flat (xs.take n)
  | [],n=>by simp[Enc.flat]
  |x::xs,0=>by simp[Enc.flat]
  | x::xs,n+1=>by
    rw[Enc.flat_cons,List.take_succ_cons,Enc.flat_cons,Nat.add_mul,Nat.one_mul,List.take_append,E.len,←Enc.flat_take E xs n];rw[List.take_of_length_le (by rw[E.len];omega)];congr 2;omega
theorem Enc.flat_drop (E:Enc α):∀(xs:List α) (n:Nat),(E.flat xs).drop (n*E.k)=E.flat (xs.drop n)
  | [],n=>by simp[Enc.flat]
  |x::xs,0=>by simp[Enc.flat]
  | x::xs,n+1=>by
    rw[Enc.flat_cons,List.drop_succ_cons,Nat.add_mul,Nat.one_mul,List.drop_append,E.len,←Enc.flat_drop E xs n];rw[List.drop_of_length_le (by rw[E.len];omega),List.nil_append];congr 1;omega
def Zm1 :Enc Int:=⟨1,by decide,fun n=> [.int .i64 n],fun _=>rfl,by intro a u hu;simp at hu;subst hu;rfl⟩
def Row (E:Enc α)(T:TypeId)(w:World)(F:Nat→Prop)(v:Value)(xs:List α):Prop:=
 (v= .slice none 0 0∧xs=[]∧F=NoB)∨
 ∃b o c cur,v= .slice (some ⟨b,o,none⟩) xs.length c∧F=ZbN b∧w.heap[b]? =some (.cells cur T (0,0))∧xs.length≤c∧c≤maxLen∧o+c*E.k≤cur.size∧(cur.toList.drop o).take (xs.length*E.k)=E.flat xs
def Rd (E :Enc α) (w:World) (v:Value) (xs:List α):Prop:=
  ∃ ao c,v= .slice ao xs.length c∧xs.length≤c∧c≤maxLen∧(ao=none→xs=[]∧c=0)∧
    ∀a,ao=some a→∀j u,(E.flat xs)[j]? =some u→w.cell? (a.add j)=some u
section
variable {E :Enc α}{T:TypeId}{w w':World}{F G:Nat→Prop}{v:Value}{xs:List α}
theorem Row.nil (E:Enc α)(T:TypeId)(w:World):Row E T w NoB (.slice none 0 0) []:= .inl ⟨rfl,rfl,rfl⟩
theorem Row.lt (h:Row E T w F v xs):∀b,F b→b<w.heap.size:=by
 rcases h with⟨_,_,rfl⟩|⟨b,o,c,cur,_,rfl,hb,_⟩
 ·intro b hb;exact hb.elim
 ·intro x hx;cases hx;exact lt_of_block hb
theorem Row.upd (h:Row E T w F v xs)(u:Upd G w w')(hd:∀b,F b→¬G b):Row E T w' F v xs:=by
 rcases h with h|⟨b,o,c,cur,h1,rfl,hb,r⟩
 ·exact .inl h
 ·exact .inr ⟨b,o,c,cur,h1,rfl,(u.keep b (lt_of_block hb) (hd b rfl)).trans hb,r⟩
theorem Row.rd (h:Row E T w F v xs):Rd E w v xs:=by
 rcases h with⟨rfl,rfl,_⟩|⟨b,o,c,cur,rfl,_,hb,h1,h2,h3,h4⟩
 ·exact⟨none,0,rfl,Nat.le_refl _,by simp[maxLen],fun _=>⟨rfl,rfl⟩,fun a ha=>by cases ha⟩
 ·refine⟨some ⟨b,o,none⟩,c,rfl,h1,h2,fun h=>(by cases h),fun a ha=>?_⟩
  cases ha;intro j u hu;rw[Addr.add_lit,cell_of_row w b (o+j) cur T (0,0) hb];rw[←h4,List.getElem?_take]at hu;split at hu
  ·rw[List.getElem?_drop]at hu;simpa using hu
  ·cases hu
theorem Row.frozen (h:Row E T w F v xs){b o c:Nat}(hv:v= .slice (some ⟨b,o,none⟩) xs.length c)(j:Nat):w.frozen? ⟨b,j,none⟩=false:=by
 rcases h with⟨rfl,_,_⟩|⟨b',o',c',cur,rfl,_,hb,_⟩
 ·cases hv
 ·cases hv;simp[World.frozen?,hb]
theorem Zer (a:Addr)(j:Nat):(a.add j).block=a.block:=by unfold Addr.add;split<;>rfl
theorem Rd.upd (h:Rd E w v xs)(u:Upd G w w')(hd:∀a c,v= .slice (some a) xs.length c→xs≠ []→a.block<w.heap.size→¬G a.block):Rd E w' v xs:=by
 obtain⟨ao,c,rfl,h1,h2,h3,h4⟩:=h;refine⟨ao,c,rfl,h1,h2,h3,fun a ha j u' hu=>?_⟩;subst ha;have hc:=h4 a rfl j u' hu;have hlt:a.block<w.heap.size:=by have:=World.block_lt_of_cell? w _ hc;rwa[Zer]at this
 have hne:xs≠ []:=by rintro rfl;simp[Enc.flat]at hu
 exact(World.cell?_of_block (w:=w) (a:=a.add j) (u.keep _ (by rw[Zer];exact hlt) (by rw[Zer];exact hd a c rfl hne hlt))).trans hc
theorem Rd.at (h:Rd E w v xs){i:Nat}(hi:i<xs.length):∃b o c,v= .slice (some ⟨b,o,none⟩) xs.length c∧xs.length≤c∧c≤maxLen∧
    ∀i j x u,xs[i]? =some x→(E.enc x)[j]? =some u→w.cell? ⟨b,o+i*E.k+j,none⟩=some u:=by
  obtain⟨ao,c,rfl,h1,h2,h3,h4⟩:=h;cases ao with
  |none=>have:=(h3 rfl).1;subst this;simp at hi
  | some a=>
    obtain⟨b,o,s⟩:=a;have hc:=h4 _ rfl;have hs:s=none:=by
      obtain⟨x,hx⟩:∃x,xs[0]? =some x:=⟨xs[0]'(by omega),by simp⟩
      obtain⟨u,hu⟩:∃u,(E.enc x)[0]? =some u:=⟨(E.enc x)[0]'(by rw[E.len];exact E.kpos),by simp⟩
      have h0:=hc 0 u (by have:=Enc.flat_get E xs 0 0 x hx E.kpos;simp only[Nat.zero_mul,Nat.zero_add]at this;rw[this];exact hu);cases s with
      |none=>rfl
      |some z=>simp[Addr.add,World.cell?]at h0;split at h0<;>simp at h0
    subst hs;refine⟨b,o,c,rfl,h1,h2,fun i j x u hx hu=>?_⟩;have hj:j<E.k:=by have:=(List.getElem?_eq_some_iff.1 hu).1;rwa[E.len]at this
    rw[Nat.add_assoc,←Addr.add_lit];exact hc _ u (by rw[Enc.flat_get E xs i j x hx hj];exact hu)
end
end Go.Proofs.YtfhkgohokbkgiaaGreatDoor
open Go.RowKit
namespace Go.Proofs.YtfhkgohokbkgiaaGreatDoor
theorem gSs {α:Type _}{l:List α}{i:Nat}{a:α}(h:l[i]? =some a):∃h:i<l.length,l[i]=a:=List.getElem?_eq_some_iff.1 h
theorem gEe {α:Type _}{l:List α}{i:Nat}(h:i<l.length):l[i]? =some l[i]:=List.getElem?_eq_getElem h
theorem gMm {α:Type _}{l:List α}{i:Nat}{a:α}(e:l[i]? =some a):a∈l:=List.mem_of_getElem? e
abbrev s0 (b:Nat):Option Addr:=some ⟨b,0,none⟩
abbrev sA (b o:Nat):Option Addr:=some ⟨b,o,none⟩
end Go.Proofs.YtfhkgohokbkgiaaGreatDoor
namespace Go.Proofs.YtfhkgohokbkgiaaGreatDoor
open Go.RowKit
section
variable {α :Type}{E:Enc α}{T:TypeId}{w w':World}{F G:Nat→Prop}{v y:Value}{xs ys:List α}{P:Program}
theorem Zdj {β:Type}(l:List β)(o n m:Nat)(ys:List β)(hy:ys.length=m)(hl:o+n+m≤l.length):
  ((l.take (o+n)++ys++l.drop (o+n+m)).drop o).take (n+m)=(l.drop o).take n++ys:=by
 have h1:(l.take (o+n)++ys++l.drop (o+n+m)).drop o=(l.drop o).take n++(ys++l.drop (o+n+m)):=by
  rw[List.append_assoc,List.drop_append,List.length_take,show o-min (o+n) l.length=0 by omega,List.drop_zero,List.drop_take];congr 2;omega
 rw[h1,←List.append_assoc,List.take_append,List.take_of_length_le (by simp;omega)];have:n+m- ((l.drop o).take n++ys).length=0:=by simp;omega
 rw[this,List.take_zero,List.append_nil]
structure Ety (P:Program)(E:Enc α)(T:TypeId)(z:Value):Prop where
 info:∃i,P.info? T=some i∧i.zero=some z∧i.size=E.k∧i.bytes≤65536
 zero:z.cells.size=E.k
theorem Zb2 {t ty:TypeId} {z:Value} (ht:P.underlying t=some (.slice T)) (hE:Ety P E T z)
    (hrow:Row E T w F v xs) (hy:Rd E w y ys) (hn:xs.length+ys.length≤1073741824):
    ∃v' w' F',(Builtin.append_ #[t,t] ty #[v,y]).run P w= .ok v' w'∧Row E T w' F' v' (xs++ys)∧Upd F w w'∧(∀b,F' b→F b∨w.heap.size≤b)∧(ys≠ []→v'≠ .slice none 0 0):=by
  obtain⟨⟨i,hi,hz,hsize,hbt⟩,hzs⟩:=hE;obtain⟨ao,cy,rfl,hy1,hy2,hy3,hy4⟩:=hy;have hflat:=E.flat_length ys;have hkk:=E.kpos;have hbytes:(xs.length+ys.length)*i.bytes≤140737488355328:=by
    have:=Nat.mul_le_mul hn hbt;omega
  have grown:∀cap:Nat,xs.length+ys.length≤cap→cap≤maxLen→Row E T (w.drew.alloc (.cells ((E.flat xs).toArray++(E.flat ys).toArray++Builtin.zeroCells z.cells (cap- (xs.length+ys.length))) T)) (ZbN w.heap.size) (.slice (some ⟨w.heap.size,0,none⟩) (xs.length+ys.length) cap) (xs++ys):=by
    intro cap hc1 hc2;refine .inr ⟨w.heap.size,0,cap,_,by rw[List.length_append],rfl,heap_alloc_new w.drew _,by rw[List.length_append];exact hc1,hc2,?_,?_⟩
    · simp only[Array.size_append,List.size_toArray,size_zeroCells,hzs,E.flat_length,Nat.zero_add,←Nat.add_mul]
      exact Nat.le_of_eq (by congr 1;omega)
    · simp only[Array.toList_append,List.drop_zero,List.length_append]
      rw[←E.flat_append];have hl:(xs.length+ys.length)*E.k=(E.flat (xs++ys)).length:=by rw[E.flat_length,List.length_append]
      rw[hl];exact List.take_left
  have updNew:∀o:Obj,Upd F w (w.drew.alloc o):=fun o=>(Upd.drew F w).trans (Upd.alloc F w.drew o)
  rcases hrow with⟨rfl,rfl,rfl⟩|⟨b,o,c,cur,rfl,rfl,hb,hc1,hc2,hc3,hcur⟩
  · by_cases hm:ys=[]
    · subst hm
      refine⟨.slice none 0 0,w,NoB,?_,Row.nil E T w,Upd.refl _ w,fun b hb=>hb.elim,fun h=>absurd rfl h⟩;cases ao<;>simp[Builtin.append_,run_underlying ht,sizeOf,typeInfo,hi,Builtin.lenOf,Builtin.firstCells,loadCells,loadCellsFrom]
    · cases ao with
      |none=>exact absurd (hy3 rfl).1 hm
      | some a=>
        obtain⟨ab,aoff,asp⟩:=a;have hcells:=hy4 _ rfl;have hpos:0<ys.length:=by cases ys with|nil=>exact absurd rfl hm|cons _ _=>simp
        have hlen:(E.flat ys).length=ys.length*i.size:=by rw[hsize];exact hflat
        have hcap:(grownCap w ys.length 0 T)≤maxLen:=grownCap_le_maxLen w _ 0 T (by simp[maxLen];simp at hn;omega);have hr:=run_append_nil (P:=P) w t ty T i z ht hi hz ⟨ab,aoff,asp⟩ ys.length cy (E.flat ys) hlen hcells hpos (by simp at hn;omega) (by simp at hbytes;omega);refine⟨_,_,ZbN w.heap.size,hr,?_,updNew _,fun b hb=> .inr (by cases hb;exact Nat.le_refl _),fun _ h=>by cases h⟩;have g:=grown (grownCap w ys.length 0 T) (by simpa using grownCap_ge w ys.length 0 T) hcap;simpa [Enc.flat_nil] using g
  · by_cases hroom:xs.length+ys.length≤c
    ·
      have hlen:(E.flat ys).length=ys.length*i.size:=by rw[hsize];exact hflat
      have hfit:o+xs.length*E.k+(E.flat ys).length≤cur.size:=by
        rw[hflat];have:=Nat.mul_le_mul_right E.k hroom;rw[Nat.add_mul]at this;omega
      have hf:(Builtin.firstCells E.k ys.length (.slice ao ys.length cy)).run P w= .ok (E.flat ys).toArray w:=by
        cases ao with
        |none=>rw[(hy3 rfl).1];simp[Builtin.firstCells,Enc.flat_nil]
        | some a=>
          obtain⟨ab,aoff,asp⟩:=a;have hcells:=hy4 _ rfl;exact run_firstCells_some (P:=P) w E.k ys.length ⟨ab,aoff,asp⟩ ys.length cy (E.flat ys) hflat hcells
      have hst:=run_storeCells_at P b (o+xs.length*E.k) T (E.flat ys) 0 cur w hb (by simpa using hfit) (E.flat_one' ys);simp only[Nat.add_zero]at hst;have hr:(Builtin.append_ #[t,t] ty #[.slice (some ⟨b,o,none⟩) xs.length c,.slice ao ys.length cy]).run P w=
          .ok (.slice (some ⟨b,o,none⟩) (xs.length+ys.length) c) (w.setRow b (cur.toList.take (o+xs.length*E.k)++E.flat ys++cur.toList.drop (o+xs.length*E.k+(E.flat ys).length)).toArray):=by
        simp[Builtin.append_,run_underlying ht,sizeOf,typeInfo,hi,hsize,Builtin.lenOf,hroom,hf,Addr.add_lit,hst]
      refine⟨_,_,ZbN b,hr,.inr ⟨b,o,c,_,by rw[List.length_append],rfl,setRow_heap w b cur _ T _ hb,by rw[List.length_append];exact hroom,hc2,?_,?_⟩,⟨rfl,rfl,rfl,by simp[World.setRow],fun k _ hk=>setRow_other w b k _ (fun e=>hk e)⟩,fun b hb=> .inl hb,fun _ h=>by cases h⟩
      · simp only[List.size_toArray,List.length_append,List.length_take,List.length_drop,Array.length_toList]
        omega
      · rw[List.length_append,Nat.add_mul,E.flat_append,←hcur,←hflat]
        exact Zdj cur.toList o (xs.length*E.k) (E.flat ys).length (E.flat ys) rfl (by simpa using hfit)
    ·
      cases ao with
      | none=>
        have:=(hy3 rfl).1;subst this;simp at hroom;omega
      | some a=>
        obtain⟨ab,aoff,asp⟩:=a;have hcells:=hy4 _ rfl;have hlen:(E.flat ys).length=ys.length*i.size:=by rw[hsize];exact hflat
        have hlx:(E.flat xs).length=xs.length*i.size:=by rw[hsize];exact E.flat_length xs
        have hxs:∀j u,(E.flat xs)[j]? =some u→w.cell? ((⟨b,o,none⟩:Addr).add j)=some u:=by
          intro j u hu;rw[Addr.add_lit,cell_of_row w b (o+j) cur T (0,0) hb];rw[←hcur,List.getElem?_take]at hu;split at hu
          · rw[List.getElem?_drop]at hu;simpa using hu
          · cases hu
        have hcap:(grownCap w (xs.length+ys.length) c T)≤maxLen:=grownCap_le_maxLen w _ c T (by simp[maxLen];omega);have hr:=run_append_grow (P:=P) w t ty T i z ht hi hz ⟨b,o,none⟩ xs.length c (E.flat xs) hlx hxs ⟨ab,aoff,asp⟩ ys.length cy (E.flat ys) hlen hcells (by omega) (by omega) (growslice_fits (by omega) hbytes);exact⟨_,_,ZbN w.heap.size,hr,grown _ (grownCap_ge w _ c T) hcap,updNew _,fun b hb=> .inr (by cases hb;exact Nat.le_refl _),fun _ h=>by cases h⟩
end
section
variable {α :Type}{E:Enc α}{T:TypeId}{w w':World}{F G:Nat→Prop}{v y:Value}{xs ys:List α}{P:Program}
theorem Zj9 {c y:Code}{Q:Exit→Act→World→Prop}{a:Act}{w:World}(l:Nat)(J:Nat→Act→World→Prop)(hf:findLabel c l=some (.seq .skip y))
  (pass:∀n a w,J n a w→∀K:Act→World→Prop,(∀a' w',(∃n',n'<n∧J n' a' w')→K a' w')→y.wp P (Exit.jump l K Q) a w)
  (first:∀K:Act→World→Prop,(∀n a' w',J n a' w'→y.wp P (Exit.jump l K Q) a' w')→c.wp P (Exit.jump l K Q) a w):(Code.scope c).wp P Q a w:=by
 refine wp_scope_jumps l (fun a w=>∃n,J n a w) (fun a w=>leastOf (fun n=>J n a w)) hf (first _ fun n a' w' hJ=>pass n a' w' hJ _ fun a'' w'' ⟨n',_,h⟩=>⟨n',h⟩) ?_;intro a w hJ;refine wp_seq (wp_skip ?_);exact pass _ a w (leastOf_spec hJ).1 _ fun a' w' ⟨n',hlt,h⟩=>⟨⟨n',h⟩,Nat.lt_of_le_of_lt ((leastOf_spec ⟨n',h⟩).2 n' h) hlt⟩
theorem ZfI {β:Type}(L A D X:List β)(o a d m:Nat)(ha:A.length=a)(hd:D.length=d)(hX:X.length=m)(hl:o+a+d+m≤L.length)(h:(L.drop o).take (a+d)=A++D):
  let L1:=L.take (o+a+m)++D++L.drop (o+a+m+d)
  let L2:=L1.take (o+a)++X++L1.drop (o+a+m)
  L2.length=L.length∧(L2.drop o).take (a+m+d)=A++X++D:=by
 intro L1 L2;have hU:(L.take o).length=o:=by simp;omega
 have hL:L.take (o+a+m)=L.take o++A++((L.drop o).drop a).take m:=by
  have h1:L.take (o+a+m)=L.take o++(L.drop o).take (a+m):=by rw[Nat.add_assoc,List.take_add]
  have h2:(L.drop o).take (a+m)=(L.drop o).take a++((L.drop o).drop a).take m:=List.take_add;have h3:(L.drop o).take a=A:=by
   have:=congrArg (List.take a) h;rw[List.take_take,Nat.min_eq_left (by omega),List.take_left' ha]at this;exact this
  rw[h1,h2,h3,List.append_assoc]
 have hM:(((L.drop o).drop a).take m).length=m:=by simp;omega
 have e1:L1=(L.take o++A)++(((L.drop o).drop a).take m++(D++L.drop (o+a+m+d))):=by
  show L.take (o+a+m)++D++L.drop (o+a+m+d)=_;rw[hL];simp
 have hUA:(L.take o++A).length=o+a:=by rw[List.length_append,hU,ha]
 have e2:L1.take (o+a)=L.take o++A:=by rw[e1];exact List.take_left' hUA
 have e3:L1.drop (o+a+m)=D++L.drop (o+a+m+d):=by
  rw[e1,←List.append_assoc];exact List.drop_left' (by rw[List.length_append,hUA,hM])
 have e4:L2=L.take o++((A++X++D)++L.drop (o+a+m+d)):=by
  show L1.take (o+a)++X++L1.drop (o+a+m)=_;rw[e2,e3];simp
 constructor
 ·rw[e4];simp only[List.length_append,hU,ha,hX,hd,List.length_drop];omega
 ·rw[e4,List.drop_left' hU]
  exact List.take_left' (by simp only[List.length_append,ha,hX,hd])
theorem Zbu {dT sT ty:TypeId}{k:Nat}(ht:P.underlying dT=some (.slice T))(hs:(P.info? T).map (·.size)=some k){b o dl dc sl sc:Nat}{cur:Array Value}(hb:w.heap[b]? =some (.cells cur T (0,0)))
    {ao:Option Addr} {cs:List Value} {m:Nat} (hmin:Nat.min sl dl=m) (hm:cs.length=m*k) (hnone:ao=none→sl=0) (hsrc:∀a,ao=some a→∀j u,cs[j]? =some u→w.cell? (a.add j)=some u) (h1:∀u∈cs,u.oneCell'=true) (hfit:o+cs.length≤cur.size):
    (Builtin.copy_ #[dT,sT] ty #[.slice (some ⟨b,o,none⟩) dl dc,.slice ao sl sc]).run P w= .ok (goInt m) (w.setRow b (cur.toList.take o++cs++cur.toList.drop (o+cs.length)).toArray):=by
  subst hmin;have hst:=run_storeCells_at P b o T cs 0 cur w hb (by simpa using hfit) h1;simp only[Nat.add_zero]at hst;have hf:(Builtin.firstCells k (Nat.min sl dl) (.slice ao sl sc)).run P w= .ok cs.toArray w:=by
    cases ao with
    | none=>
      have:=hnone rfl;subst this;have:cs=[]:=List.eq_nil_of_length_eq_zero (by simpa using hm);subst this;simp[Builtin.firstCells]
    |some a=>exact run_firstCells_some (P:=P) w k _ a sl sc cs hm (hsrc a rfl)
  cases hq:P.info? T with
  |none=>simp[hq]at hs
  | some i=>
    have hi:i.size=k:=by simpa [hq] using hs
    simp[Builtin.copy_,run_underlying ht,Builtin.lenOf,sizeOf,typeInfo,hq,hi,hf,hst]
theorem Enc.flat_set (E:Enc α):∀(xs:List α) (i j:Nat) (x x':α) (u:Value),xs[i]? =some x→E.enc x'=(E.enc x).set j u→j<E.k→(E.flat xs).set (i*E.k+j) u=E.flat (xs.set i x')
  | [],i,j,x,x',u,h,_,_=>by simp at h
  | y::xs,0,j,x,x',u,h,he,hj=>by
    simp at h;subst h;rw[List.set_cons_zero,Enc.flat_cons,Enc.flat_cons,he,Nat.zero_mul,Nat.zero_add,List.set_append_left _ _ (by rw[E.len];exact hj)]
  | y::xs,i+1,j,x,x',u,h,he,hj=>by
    rw[List.set_cons_succ,Enc.flat_cons,Enc.flat_cons,List.set_append_right _ _ (by rw[E.len,Nat.add_mul];omega),E.len];have:(i+1)*E.k+j-E.k=i*E.k+j:=by rw[Nat.add_mul];omega
    rw[this,Enc.flat_set E xs i j x x' u (by simpa using h) he hj]
theorem Row.set {b o c n i j:Nat}{x x':α}{u:Value}(hrow:Row E T w F (.slice (some ⟨b,o,none⟩) n c) xs)(hx:xs[i]? =some x)(he:E.enc x'=(E.enc x).set j u)(hj:j<E.k):
  Row E T (w.setCell ⟨b,o+i*E.k+j,none⟩ u) F (.slice (some ⟨b,o,none⟩) n c) (xs.set i x'):=by
 rcases hrow with⟨h,_,_⟩|⟨b',o',c',cur,hv,hF,hb,h1,h2,h3,h4⟩
 ·cases h
 ·cases hv
  have hi:i<xs.length:=(gSs hx).1;have hfit:i*E.k+j<xs.length*E.k:=by
   have:=Nat.mul_le_mul_right E.k (show i+1≤xs.length by omega);rw[Nat.add_mul]at this;omega
  refine .inr ⟨b,o,c,cur.setIfInBounds (o+i*E.k+j) u,by rw[List.length_set],hF,?_,by rw[List.length_set];exact h1,h2,by simpa using h3,?_⟩
  ·simp[World.setCell,Array.getElem?_modify,hb]
  ·rw[List.length_set,←Enc.flat_set E xs i j x x' u hx he hj,←h4,Array.toList_setIfInBounds,List.drop_set,if_neg (by omega),List.take_set]
   congr 1;omega
theorem Row.lenEq {b:Option Addr}{n c:Nat}(hrow:Row E T w F (.slice b n c) xs):n=xs.length:=by
 rcases hrow with⟨h,rfl,_⟩|⟨b',o',c',cur,hv,_⟩
 ·cases h;rfl
 ·cases hv;rfl
theorem ZcX {t tn ty:TypeId}{z:Value}(ht:P.underlying t=some (.slice T))(htn:P.underlying tn=some (.int .i64))(hE:Ety P E T z)
    {ao:Option Addr} {n c l:Nat} (hx:xs.length=n) (hcells:∀a,ao=some a→∀j u,(E.flat xs)[j]? =some u→w.cell? (a.add j)=some u) (hnone:ao=none→n=0) (hnc:n≤c) (hc:c<n+l) (hl:n+l≤1073741824) {L:Int} (hL:L=l):
    ∃cap,n+l≤cap∧cap≤maxLen∧(Builtin.append_ #[t,tn] ty #[.slice ao n c,.int .i64 L]).run P w= .ok (.slice (some ⟨w.heap.size,0,none⟩) (n+l) cap) (w.drew.alloc (.cells ((E.flat xs).toArray++Builtin.zeroCells z.cells l++Builtin.zeroCells z.cells (cap- (n+l))) T)):=by
  obtain⟨⟨i,hi,hz,hsize,hbt⟩,hzs⟩:=hE;subst hx;subst hL;refine⟨grownCap w (xs.length+l) c T,grownCap_ge w _ c T,grownCap_le_maxLen w _ c T (by simp[maxLen];omega),?_⟩;have hbytes:(xs.length+l)*i.bytes≤140737488355328:=by
    have:=Nat.mul_le_mul hl hbt;omega
  have hlb:l*i.bytes≤140737488355328:=Nat.le_trans (Nat.mul_le_mul_right _ (by omega)) hbytes;have hlw:IntKind.i64.wrap (l:Int)=l:=by rw[IntKind.wrap_i64];omega
  have h0:¬((l:Int)<0):=by omega
  have h1:¬(281474976710656< (l:Int)*(i.bytes:Int)):=by
    have:((l*i.bytes:Nat):Int)=(l:Int)*(i.bytes:Int):=by simp
    omega
  have hn:¬(xs.length+l≤c):=by omega
  have h63':¬(9223372036854775807< ((xs.length:Int)+(l:Int))):=by omega
  have h48':¬(281474976710656<Builtin.nextslicecap (xs.length+l) c*i.bytes):=by
    have:=growslice_fits (need:=xs.length+l) (old:=c) (bytes:=i.bytes) (by omega) hbytes;omega
  have hfo:(Builtin.firstCells E.k xs.length (.slice ao xs.length c)).run P w.drew= .ok (E.flat xs).toArray w.drew:=by
    cases ao with
    | none=>
      have:=hnone rfl;have:xs=[]:=List.eq_nil_of_length_eq_zero this;subst this;simp[Builtin.firstCells,Enc.flat_nil]
    |some a=>exact run_firstCells_some (P:=P) w.drew E.k xs.length a xs.length c (E.flat xs) (E.flat_length xs) (by simpa using hcells a rfl)
  have hk:=E.kpos;have hz0:¬(l*E.k=0):=by
    intro h;rcases Nat.mul_eq_zero.1 h with h|h
    · omega
    · omega
  simp[Builtin.append_,run_underlying ht,run_underlying htn,sizeOf,typeInfo,zeroValue,hi,hz,hsize,asInt,asIntOf,hlw,h0,h1,hn,h63',h48',Question.forced,hfo,newRow,grownCap,hz0]
theorem ZaT {o:Oper}{ops:Array Oper}{rest:List Oper}{a:Act}{Q:Exit→Act→World→Prop}{s x:Operand}{t t':TypeId}{v u v':Value}{w':World}
  (hh:o.guard=none∧o.op= .call {callee:= .builtin .append,args:= #[s,x],argTypes:= #[t,t']}∧a.eval s=v∧a.eval x=u)
  (hr:(Builtin.append_ #[t,t'] o.type #[v,u]).run P w= .ok v' w') (h:wpList P ops Q rest (a.put o.dst v') w'):wpList P ops Q (o::rest) a w:=
 wpList_plain hh.1 fun K hK=>by
  obtain⟨_,ho,hs,hx⟩:=hh;unfold Oper.wp execOp;simp only[ho,resolve,invoke,builtin,Sem.run_bind,Sem.run_pure,Result.andThen_ok,List.map_toArray,List.map_cons,List.map_nil,hs,hx,hr];exact hK _ _ h
theorem Zcu {o:Oper}{ops:Array Oper}{a:Act}{K:Act→World→Prop}{Q:Exit→Act→World→Prop}{Z:Prop}(hgd:o.guard=none)(s x:Operand)(t t':TypeId)
  (ho:o.op= .call {callee:= .builtin .copy,args:= #[s,x],argTypes:= #[t,t']}) {v u v':Value} {w':World} (hs:a.eval s=v) (hx:a.eval x=u)
  (hr:(Builtin.copy_ #[t,t'] o.type #[v,u]).run P w= .ok v' w') (h:K (a.put o.dst v') w'):if Region.wanted o (yielded ops a.tmps)=true then Oper.wp P o a w K Q else Z:=by
 have hw:Region.wanted o (yielded ops a.tmps)=true:=by simp[Region.wanted,hgd]
 rw[if_pos hw];unfold Oper.wp execOp;simp only[ho,resolve,invoke,builtin,Sem.run_bind,Sem.run_pure,Result.andThen_ok,List.map_toArray,List.map_cons,List.map_nil,hs,hx,hr];exact h
theorem ZaQ {o:Oper}{ops:Array Oper}{a:Act}{K:Act→World→Prop}{Q:Exit→Act→World→Prop}{Z:Prop}(hgd:o.guard=none)(s x:Operand)(t t':TypeId)
  (ho:o.op= .call {callee:= .builtin .append,args:= #[s,x],argTypes:= #[t,t']}) {v u v':Value} {w':World} (hs:a.eval s=v) (hx:a.eval x=u)
  (hr:(Builtin.append_ #[t,t'] o.type #[v,u]).run P w= .ok v' w') (h:K (a.put o.dst v') w'):if Region.wanted o (yielded ops a.tmps)=true then Oper.wp P o a w K Q else Z:=by
 have hw:Region.wanted o (yielded ops a.tmps)=true:=by simp[Region.wanted,hgd]
 rw[if_pos hw];unfold Oper.wp execOp;simp only[ho,resolve,invoke,builtin,Sem.run_bind,Sem.run_pure,Result.andThen_ok,List.map_toArray,List.map_cons,List.map_nil,hs,hx,hr];exact h
theorem ZbK {t ty:TypeId}{z:Value}(ht:P.underlying t=some (.slice T))(hE:Ety P E T z){b o n c:Nat}{cur:Array Value}(hb:w.heap[b]? =some (.cells cur T (0,0)))(hn:0<n)(hfit:o+n*E.k≤cur.size)(h1:∀u∈(Builtin.zeroCells z.cells n).toList,u.oneCell'=true):
  (Builtin.clear_ #[t] ty #[.slice (some ⟨b,o,none⟩) n c]).run P w= .ok (.tuple #[]) (w.setRow b (cur.toList.take o++(Builtin.zeroCells z.cells n).toList++cur.toList.drop (o+n*E.k)).toArray):=by
 obtain⟨⟨i,hi,hz,hsize,_⟩,hzs⟩:=hE;have hl:(Builtin.zeroCells z.cells n).toList.length=n*E.k:=by rw[Array.length_toList,size_zeroCells,hzs]
 have hst:=run_storeCells_at P b o T (Builtin.zeroCells z.cells n).toList 0 cur w hb (by rw[hl];simpa using hfit) h1;simp only[Nat.add_zero]at hst;cases n with
 |zero=>omega
 |succ n=>simp[Builtin.clear_,run_underlying ht,typeInfo,zeroValue,hi,hz,hst,hl]
theorem Zc9 {tS tR:TypeId}{k:Nat}(ht:P.underlying tS=some (.slice T))(hs:(P.info? T).map (·.size)=some k){b1 b2 o2 l1 c1 l2 c2:Nat}{T1:TypeId}{cs:List Value}{cur:Array Value}
    (h1:Blk w b1 T1 cs) (h2:w.heap[b2]? =some (.cells cur T (0,0))) (hne:b1≠b2) (hpos:0<cur.size):
    (Extern.SlicesOverlaps.overlaps #[tS,tS] #[tR] #[.slice (some ⟨b1,0,none⟩) l1 c1,.slice (some ⟨b2,o2,none⟩) l2 c2]).run P w= .ok (.bool false) w:=by
  have h1':w.heap[b1]? =some (.cells cs.toArray T1 (0,0)):=h1;refine Lib.run_overlaps_apart w tS tR T ht k ?_ ⟨b1,0,none⟩ ⟨b2,o2,none⟩ l1 c1 l2 c2 hne T1 T cs.length cur.size ?_ ?_ (by omega) ?_ ?_
  · intro w'
    cases hq:P.info? T with
    |none=>simp[hq]at hs
    | some i=>
      have hi:i.size=k:=by simpa [hq] using hs
      simp[sizeOf,typeInfo,hq,hi]
  · simp[World.shape?,h1']
  · simp[World.shape?,h2]
  · exact h1.frozen 0
  · exact h1.frozen _
theorem Zb3 {z:Value}(hE:Ety P E T z):(P.info? T).map (·.size)=some E.k:=by
 obtain⟨⟨i,hi,_,hs,_⟩,_⟩:=hE;simp[hi,hs]
theorem Rd.one {b:Nat}{x:α}{T':TypeId}(h:Blk w b T' (E.enc x)):Rd E w (.slice (some ⟨b,0,none⟩) 1 1) [x]:=by
 refine⟨some ⟨b,0,none⟩,1,rfl,by simp,by simp[maxLen],(by intro h;cases h),?_⟩;intro a ha;cases ha;intro j u hu;rw[Enc.flat_one]at hu;rw[Addr.add_lit,Nat.zero_add,h.cell];exact hu
theorem row_form (h:Row E T w F v xs):∃ao c,v= .slice ao xs.length c∧xs.length≤c:=by
 rcases h with⟨rfl,rfl,_⟩|⟨b,o,c,cur,rfl,_,_,h1,_⟩
 ·exact⟨none,0,rfl,Nat.le_refl _⟩
 ·exact⟨_,c,rfl,h1⟩
def PsAt (E:Enc α)(TB T:TypeId)(w:World)(F:Nat→Prop)(p:Value)(l:List α):Prop:=
 ∃b sv G,p= .pointer (some ⟨b,0,none⟩)∧Blk w b TB [sv]∧Row E T w G sv l∧¬G b∧F=OrB (ZbN b) G
def ZpD (E:Enc α)(TB T:TypeId)(F:Nat→Prop)(w:World)(p R:Value)(l:List α)(e:Ending)(w':World):Prop:=
 ∃F',e= .returned R∧PsAt E TB T w' F' p l∧Upd F w w'∧∀b,F' b→F b∨w.heap.size≤b
theorem PsAt.lt {TB:TypeId}{p:Value}(h:PsAt E TB T w F p xs):∀b,F b→b<w.heap.size:=by
 obtain⟨b,sv,G,_,hb,hr,_,rfl⟩:=h;rintro x (rfl|hx)
 ·exact hb.lt
 ·exact hr.lt x hx
theorem PsAt.upd {TB:TypeId}{p:Value}(h:PsAt E TB T w F p xs)(u:Upd G w w')(hd:∀b,F b→¬G b):PsAt E TB T w' F p xs:=by
 obtain⟨b,sv,H,hp,hb,hr,hn,rfl⟩:=h;exact⟨b,sv,H,hp,hb.upd u (hd b (.inl rfl)),hr.upd u (fun x hx=>hd x (.inr hx)),hn,rfl⟩
theorem PsAt.put {TB:TypeId}{b:Nat}{sv v':Value}{F':Nat→Prop}{l':List α}(hb:Blk w b TB [sv])(hnb:¬G b)(hu:Upd G w w')(hr':Row E T w' F' v' l')(hF:∀x,F' x→G x∨w.heap.size≤x)(R:Value):
  ZpD E TB T (OrB (ZbN b) G) w (.pointer (some ⟨b,0,none⟩)) R l' (.returned R) (w'.setCell ⟨b,0,none⟩ v'):=by
 have hFb:¬F' b:=fun hx=>by
  rcases hF b hx with h|h
  ·exact hnb h
  ·have:=hb.lt;omega
 refine⟨OrB (ZbN b) F',rfl,⟨b,_,F',rfl,(hb.upd hu hnb).set 0 _,hr'.upd (Upd.setCell (F:=ZbN b) w' _ _ rfl) (fun x hx hxb=>hFb (by cases hxb;exact hx)),hFb,rfl⟩,(hu.mono (fun x _ hx=> .inr hx)).trans (Upd.setCell w' _ _ (.inl rfl)),?_⟩;rintro x (rfl|hx)
 ·exact .inl (.inl rfl)
 ·rcases hF x hx with h|h
  ·exact .inl (.inr h)
  ·exact .inr h
theorem Znw {t ty:TypeId}{z:Value}{w0 W:World}{x:α}{yb:Nat}{T':TypeId}(ht:P.underlying t=some (.slice T))(hE:Ety P E T z)(hrow:Row E T w0 F v xs)(hn:xs.length+1≤1073741824)(hu:Upd NoB w0 W)(hb:Blk W yb T' (E.enc x)):
  ∃v' w' F',(Builtin.append_ #[t,t] ty #[v,.slice (some ⟨yb,0,none⟩) 1 1]).run P W= .ok v' w'∧Row E T w' F' v' (xs++[x])∧Upd F w0 w'∧(∀b,F' b→F b∨w0.heap.size≤b):=by
 obtain⟨v',w',F',h1,h2,h3,h4,_⟩:=Zb2 (ty:=ty) ht hE (hrow.upd hu (fun x _ hx=>hx)) (Rd.one hb) (by simpa using hn);exact⟨v',w',F',h1,h2,(hu.mono (fun x _ hx=>hx.elim)).trans h3,fun b hb=>(h4 b hb).imp id (fun h=>Nat.le_trans hu.size h)⟩
end
section
variable {P :Program}{ops:Array Oper}{Q:Exit→Act→World→Prop}{md:Region.Mode}{S:World→Prop}{N:List Nat}
def Zcs (P :Program) (md:Region.Mode) (ops:Array Oper) (Q:Exit→Act→World→Prop) (S:World→Prop) (N:List Nat):Nat→Array Bool→Act→World→Prop
  |0,listed,a,w=>Region.ready md ops listed=[]∧Q .normal a w
  | fuel+1,listed,a,w=>
    (Region.ready md ops listed=[]→Q .normal a w)∧
    ∀i∈Region.ready md ops listed,wpOp P ops Q i (fun a' w'=>(N.contains i=false→S w→S w')∧Zcs P md ops Q S N fuel (listed.setIfInBounds i true) a' w') a w
theorem ZfA :∀(fuel:Nat) (listed:Array Bool) (a:Act) (w:World),Zcs P md ops Q S N fuel listed a w→wpAny P md ops Q fuel listed a w
 |0,_,_,_,h=>h
 |fuel+1,_,_,_,h=>⟨h.1,fun i hi=>wpOp_mono (fun a' w' h'=>ZfA fuel _ a' w' h'.2) (h.2 i hi)⟩
def Zrc (md:Region.Mode)(ops:Array Oper)(listed:Array Bool)(i:Nat):List Nat:=
 (List.range ops.size).foldl (fun acc k=>if k==i||(!listed.getD k true&& ((ops[k]?).map (fun o=>o.after.any fun e=>Region.binds md e&&acc.contains e.on)).getD false)then k::acc else acc) []
def ZlE (md:Region.Mode)(ops:Array Oper)(listed:Array Bool)(N:List Nat)(i:Nat)(B:List Nat):Bool:=
 (N.all fun n=>listed.getD n true||B.contains n)&&B.all fun k=> !listed.getD k true&& (k==i||((ops[k]?).map (fun o=>o.after.any fun e=>Region.binds md e&&B.contains e.on)).getD false)
structure WaitInv (md:Region.Mode)(ops:Array Oper)(N:List Nat)(i:Nat)(B:List Nat)(listed:Array Bool):Prop where
 has:∀n∈N,listed.getD n true=true∨n∈B
 un:∀k∈B,listed.getD k true=false
 waits:∀k∈B,k≠i→∃o,ops[k]? =some o∧∃e∈o.after,Region.binds md e=true∧e.on∈B
theorem ZqK {listed:Array Bool}{i:Nat}(h:listed.getD i true=false):listed.getD i false=false:=by
 rcases Nat.lt_or_ge i listed.size with h'|h'
 ·simp[h']at h ⊢;exact h
 ·simp[Array.getElem?_eq_none h']at h
theorem waitOk_inv {i:Nat}{B:List Nat}{listed:Array Bool}(h:ZlE md ops listed N i B=true):WaitInv md ops N i B listed:=by
  simp only[ZlE,Bool.and_eq_true,List.contains_iff_mem,List.all_eq_true,Bool.or_eq_true,Bool.not_eq_true',beq_iff_eq]at h;refine⟨h.1,fun k hk=>(h.2 k hk).1,fun k hk hne=>?_⟩;rcases(h.2 k hk).2 with h2|h2
  · exact absurd h2 hne
  · cases ho:ops[k]? with
    |none=>rw[ho]at h2;cases h2
    | some o=>
      rw[ho]at h2;have h3:(o.after.any fun e=>Region.binds md e&&B.contains e.on)=true:=h2;obtain⟨e,he,hb⟩:=Array.any_eq_true'.1 h3;simp only[Bool.and_eq_true,List.contains_iff_mem]at hb;exact⟨o,rfl,e,he,hb.1,hb.2⟩
theorem WaitInv.out {i j:Nat}{B:List Nat}{listed:Array Bool}(h:WaitInv md ops N i B listed)(hj:j∈Region.ready md ops listed)(hne:j≠i):j ∉ B:=fun hB=>by
 obtain⟨_,oj,hoj,hall⟩:=mem_ready.1 hj;obtain⟨o,ho,e,he,hb,hon⟩:=h.waits j hB hne;have:o=oj:=Option.some.inj (ho.symm.trans hoj);subst this;have h1:=hall e he hb;rw[ZqK (h.un _ hon)]at h1;cases h1
theorem WaitInv.set {i j:Nat}{B:List Nat}{listed:Array Bool}(h:WaitInv md ops N i B listed)(hj:j ∉ B):WaitInv md ops N i B (listed.setIfInBounds j true):=
 ⟨fun n hn=>(h.has n hn).imp (fun h1=>by
  by_cases e:j=n
  ·subst e
   rcases Nat.lt_or_ge j listed.size with h'|h'
   ·simp[h']
   ·simp[Array.getElem?_eq_none h']
  ·rw[getD_set_ne true e];exact h1) id,fun k hk=>by
  have hne:j≠k:=fun e=>by subst e;exact hj hk
  rw[getD_set_ne true hne];exact h.un k hk,h.waits⟩
theorem ZgF {i :Nat} {oi:Oper} {v:Value} (hi:ops[i]? =some oi) (B:List Nat) (hsel:∀(j:Nat) (o:Oper) cs b,ops[j]? =some o→o.op≠ .select cs b)
    (hQ:∀c a w,Q (.panic c) (a.put oi.dst v) w→Q (.panic c) a w):
    ∀ (fuel:Nat) (listed:Array Bool) (a:Act) (w:World),WaitInv md ops N i B listed→
      (∀j oj,ops[j]? =some oj→j≠i→listed.getD j true=false→(∀e∈oj.after,Region.binds md e=true→e.on≠i)→oi.apart ops oj=true)→
      i∈Region.ready md ops listed→YieldsIf P ops S oi v a→S w→
      Zcs P md ops Q S N fuel (listed.setIfInBounds i true) (a.put oi.dst v) w→Zcs P md ops Q S N (fuel+1) listed a w:=by
  intro fuel;induction fuel with
  | zero=>
    intro listed a w _ _ hr hy hS H;refine⟨fun h=>(by rw[h]at hr;cases hr),fun j hj=>?_⟩;by_cases hji:j=i
    · subst hji;exact hy.wpOp hi hS ⟨fun _ h=>h,H⟩
    · have:=ready_mono hj hji
      rw[H.1]at this;cases this
  | succ fuel ih=>
    intro listed a w hinv hfree hr hy hS H;refine⟨fun h=>(by rw[h]at hr;cases hr),fun j hj=>?_⟩;by_cases hji:j=i
    · subst hji;exact hy.wpOp hi hS ⟨fun _ h=>h,H⟩
    · have hjB:=hinv.out hj hji
      have hjn:N.contains j=false:=by
        cases hc:N.contains j with
        |false=>rfl
        | true=>
          rcases hinv.has j (by simpa using hc)with h|h
          · rw[(mem_ready.1 hj).1]at h;cases h
          · exact absurd h hjB
      have h1:=H.2 j (ready_mono hj hji);obtain⟨hjun,oj,hoj,hall⟩:=mem_ready.1 hj;have hnot:∀e∈oj.after,Region.binds md e=true→e.on≠i:=fun e he hb heq=>by
        have h1:=hall e he hb;have h0:=(mem_ready.1 hr).1;rw[heq]at h1;rcases Nat.lt_or_ge i listed.size with h'|h'
        · simp[h']at h0 h1;rw[h0]at h1;cases h1
        · simp[Array.getElem?_eq_none h']at h1
      have h2:=wpOp_putIf hoj (hfree j oj hoj hji hjun hnot) (fun cs b=>hsel i oi cs b hi) (fun cs b=>hsel j oj cs b hoj) hQ hy h1;have hfree':∀k ok,ops[k]? =some ok→k≠i→(listed.setIfInBounds j true).getD k true=false→
          (∀e∈ok.after,Region.binds md e=true→e.on≠i)→oi.apart ops ok=true:=fun k ok hk hki hun hno=>by
        refine hfree k ok hk hki ?_ hno;by_cases hjk:j=k
        · subst hjk;exact hjun
        · rw[getD_set_ne true hjk]at hun;exact hun
      refine wpOp_mono (fun a' w' h3=>⟨h3.2.1,ih (listed.setIfInBounds j true) a' w' (hinv.set hjB) hfree' (ready_mono hr (Ne.symm hji)) h3.1 (h3.2.1 hjn hS) ?_⟩) h2;rw[Array.setIfInBounds_comm _ _ hji];exact h3.2.2
def ZdS (md:Region.Mode)(ops:Array Oper)(N:List Nat)(listed:Array Bool)(i:Nat):Bool:=
 Region.noSelect ops&&Region.free md ops listed i&& (Region.ready md ops listed).contains i&&ZlE md ops listed N i (Zrc md ops listed i)
theorem wpAnyN_take (i:Nat){oi:Oper}{v:Value}{fuel:Nat}{listed:Array Bool}{a:Act}{w:World}(hi:ops[i]? =some oi)(hB:ZdS md ops N listed i=true)
  (hQ:∀c a w,Q (.panic c) (a.put oi.dst v) w→Q (.panic c) a w) (hS:S w) (hy:YieldsIf P ops S oi v a)
  (h:Zcs P md ops Q S N fuel (listed.setIfInBounds i true) (a.put oi.dst v) w):Zcs P md ops Q S N (fuel+1) listed a w:=by
 simp only[ZdS,Bool.and_eq_true]at hB;obtain⟨⟨⟨h2,h3⟩,h4⟩,h5⟩:=hB;exact ZgF hi _ (Region.noSelect_spec h2) hQ fuel listed a w (waitOk_inv h5) (Region.free_spec hi h3) (by simpa using h4) hy hS h
def AllN (P:Program)(md:Region.Mode)(ops:Array Oper)(Q:Exit→Act→World→Prop)(S:World→Prop)(N:List Nat)(fuel:Nat)(listed:Array Bool)(a:Act)(w:World)(rs:List Nat):Prop:=
 ∀i∈rs,wpOp P ops Q i (fun a' w'=>(N.contains i=false→S w→S w')∧Zcs P md ops Q S N fuel (listed.setIfInBounds i true) a' w') a w
theorem AllN.nil {fuel:Nat}{listed:Array Bool}{a:Act}{w:World}:AllN P md ops Q S N fuel listed a w []:=fun _ h=>by cases h
theorem AllN.cons {fuel:Nat}{listed:Array Bool}{a:Act}{w:World}{i:Nat}{o:Oper}{rs:List Nat}(ho:ops[i]? =some o)
  (h:∀K':Act→World→Prop,Shut (∀a w,(N.contains i=false→S w)→Zcs P md ops Q S N fuel (listed.setIfInBounds i true) a w→K' a w)→if Region.wanted o (yielded ops a.tmps)=true then Oper.wp P o a w K' Q else K' (a.put o.dst undef) w)
  (hs:AllN P md ops Q S N fuel listed a w rs):AllN P md ops Q S N fuel listed a w (i::rs):=fun j hj=>by
 rcases List.mem_cons.1 hj with rfl|hj
 ·exact wpOp_step ho (fun K' hK=>h K' (fun a w hS hW=>hK a w ⟨fun hn _=>hS hn,hW⟩))
 ·exact hs j hj
theorem wpAnyN_all {fuel:Nat}{listed:Array Bool}{a:Act}{w:World}(rs:List Nat)(hr:(Region.ready md ops listed==rs&&rs !=[])=true)
  (h:AllN P md ops Q S N fuel listed a w rs):Zcs P md ops Q S N (fuel+1) listed a w:=by
 simp only[Bool.and_eq_true,beq_iff_eq,bne_iff_ne]at hr;exact⟨fun h0=>absurd (hr.1▸h0) hr.2,hr.1▸h⟩
theorem Zh4 {fuel:Nat}{listed:Array Bool}{a:Act}{w:World}(hr:(Region.ready md ops listed==[])=true)(h:Q .normal a w):Zcs P md ops Q S N fuel listed a w:=by
 simp only[beq_iff_eq]at hr;cases fuel with
 |zero=>exact⟨hr,h⟩
 |succ f=>exact⟨fun _=>h,by rw[hr];simp⟩
theorem wp_region_N (N:List Nat)(S:World→Prop){id:Nat}{a:Act}{w:World}(hm:P.follows .mixedOrders=true)(hS:S w.drew)
  (h:S w.drew→Zcs P .any ops Q S N ops.size (Array.replicate ops.size false) a w.drew):(Code.region id ops true).wp P Q a w:=
 wp_region_any hm (ZfA _ _ _ _ (h hS))
end
end Go.Proofs.YtfhkgohokbkgiaaGreatDoor
namespace Go.Proofs.YtfhkgohokbkgiaaGreatDoor.G
open Go.RowKit Go.Proofs.YtfhkgohokbkgiaaGreatDoor
structure Alike (F:Nat→Prop)(w w':World):Prop where
 os:w'.os=w.os
 tape:w'.tape=w.tape
 output:w'.output=w.output
 size:w.heap.size≤w'.heap.size
 keep:∀b,F b→w'.heap[b]? =w.heap[b]?
structure SP where
 holds:World→(Nat→Prop)→Prop
 lt:∀{w F},holds w F→∀b,F b→b<w.heap.size
 stay:∀{w w' F},holds w F→Alike F w w'→holds w' F
def SatF :List SP→World→(Nat→Prop)→Prop
 | [],_,_=>True
 |P::l,w,F=>∃G,P.holds w G∧(∀b,G b→F b)∧SatF l w (fun b=>F b∧¬G b)
def Sat (w:World)(l:List SP):Prop:=SatF l w (fun _=>True)
theorem SatF.mono :∀{l:List SP} {w:World} {F F':Nat→Prop},SatF l w F→(∀b,F b→F' b)→SatF l w F'
 | [],_,_,_,_,_=>trivial
 |_::_,_,_,_,⟨G,h1,h2,h3⟩,hs=>⟨G,h1,fun b hb=>hs b (h2 b hb),SatF.mono h3 (fun b hb=>⟨hs b hb.1,hb.2⟩)⟩
theorem SatF.stay :∀{l:List SP} {w w':World} {F:Nat→Prop},SatF l w F→Alike (fun b=>F b∧b<w.heap.size) w w'→SatF l w' F
  | [],_,_,_,_,_=>trivial
  | P::_,w,w',F,⟨G,h1,h2,h3⟩,ha=>⟨G,P.stay h1 ⟨ha.os,ha.tape,ha.output,ha.size,fun b hb=>ha.keep b ⟨h2 b hb,P.lt h1 b hb⟩⟩,h2,
    SatF.stay h3 ⟨ha.os,ha.tape,ha.output,ha.size,fun b hb=>ha.keep b ⟨hb.1.1,hb.2⟩⟩⟩
theorem SatF.swap {P Q:SP}{l:List SP}{w:World}{F:Nat→Prop}(h:SatF (P::Q::l) w F):SatF (Q::P::l) w F:=by
 obtain⟨G,h1,h2,K,k1,k2,k3⟩:=h;exact⟨K,k1,fun b hb=>(k2 b hb).1,G,h1,fun b hb=>⟨h2 b hb,fun hk=>(k2 b hk).2 hb⟩,k3.mono (fun b hb=>⟨⟨hb.1.1,hb.2⟩,hb.1.2⟩)⟩
theorem SatF.pick :∀{l:List SP} (i:Nat) {P:SP} {w:World} {F:Nat→Prop},l[i]? =some P→SatF l w F→SatF (P::l.eraseIdx i) w F
  | [],i,P,w,F,h,_=>by simp at h
  |Q::l,0,P,w,F,h,hs=>by simp at h;subst h;exact hs
  | Q::l,i+1,P,w,F,h,⟨G,h1,h2,h3⟩=>by
    have:=SatF.pick i (by simpa using h) h3;exact SatF.swap ⟨G,h1,h2,this⟩
theorem Sat.pick {l:List SP}{w:World}(i:Nat){P:SP}(h:l[i]? =some P)(hs:Sat w l):Sat w (P::l.eraseIdx i):=SatF.pick i h hs
theorem Sat.tail {P:SP}{l:List SP}{w:World}(h:Sat w (P::l)):Sat w l:=by
 obtain⟨G,_,_,h3⟩:=h;exact SatF.mono h3 (fun _ _=>trivial)
theorem Sat.stay {l:List SP}{w w':World}(h:Sat w l)(u:Upd NoB w w'):Sat w' l:=
 SatF.stay h ⟨u.os,u.tape,u.output,u.size,fun b hb=>u.keep b hb.2 (fun x=>x)⟩
theorem Sat.change {P P':SP}{l:List SP}{w w':World}(h:Sat w (P::l))(u:∀G,P.holds w G→Upd G w w'∧∃G',P'.holds w' G'∧∀b,G' b→G b∨w.heap.size≤b):Sat w' (P'::l):=by
  obtain⟨G,h1,h2,h3⟩:=h;obtain⟨hu,G',g1,g2⟩:=u G h1;refine⟨G',g1,fun _ _=>trivial,?_⟩;have key:∀(l:List SP) (F:Nat→Prop),SatF l w F→(∀b,F b→¬G b)→SatF l w' (fun b=>F b∧b<w.heap.size):=by
    intro l;induction l with
    |nil=>intro F _ _;exact trivial
    | cons Q l ih=>
      intro F hs hn;obtain⟨K,k1,k2,k3⟩:=hs;refine⟨K,Q.stay k1 ⟨hu.os,hu.tape,hu.output,hu.size,fun b hb=>hu.keep b (Q.lt k1 b hb) (hn b (k2 b hb))⟩,fun b hb=>⟨k2 b hb,Q.lt k1 b hb⟩,?_⟩;exact(ih _ k3 (fun b hb=>hn b hb.1)).mono (fun b hb=>⟨⟨hb.1.1,hb.2⟩,hb.1.2⟩)
  refine(key l _ h3 (fun b hb=>hb.2)).mono (fun b hb=>⟨trivial,fun hg=>?_⟩);rcases g2 b hg with h|h
  · exact hb.1.2 h
  · omega
theorem Sat.fresh {P':SP}{l:List SP}{w w':World}(h:Sat w l)(u:Upd NoB w w'){G':Nat→Prop}(g1:P'.holds w' G')(g2:∀b,G' b→w.heap.size≤b):Sat w' (P'::l):=by
  refine⟨G',g1,fun _ _=>trivial,?_⟩;have key:∀(l:List SP) (F:Nat→Prop),SatF l w F→SatF l w' (fun b=>F b∧b<w.heap.size):=by
    intro l;induction l with
    |nil=>intro F _;exact trivial
    | cons Q l ih=>
      intro F hs;obtain⟨K,k1,k2,k3⟩:=hs;refine⟨K,Q.stay k1 ⟨u.os,u.tape,u.output,u.size,fun b hb=>u.keep b (Q.lt k1 b hb) (fun x=>x)⟩,fun b hb=>⟨k2 b hb,Q.lt k1 b hb⟩,?_⟩;exact(ih _ k3).mono (fun b hb=>⟨⟨hb.1.1,hb.2⟩,hb.1.2⟩)
  exact(key l _ h).mono (fun b hb=>⟨trivial,fun hg=>by have:=g2 b hg;omega⟩)
theorem Sat.head {P:SP}{l:List SP}{w:World}(h:Sat w (P::l)):∃G,P.holds w G:=⟨_,h.choose_spec.1⟩
def exS {ι:Type}(f:ι→SP):SP:=⟨fun w F=>∃x,(f x).holds w F,fun⟨x,h⟩=>(f x).lt h,fun⟨x,h⟩ a=>⟨x,(f x).stay h a⟩⟩
theorem Sat.openEx {ι:Type}{f:ι→SP}{l:List SP}{w:World}(h:Sat w (exS f::l)):∃x,Sat w (f x::l):=by
 obtain⟨G,⟨x,hx⟩,h2,h3⟩:=h;exact⟨x,G,hx,h2,h3⟩
theorem Sat.closeEx {ι:Type}{f:ι→SP}{l:List SP}{w:World}(x:ι)(h:Sat w (f x::l)):Sat w (exS f::l):=by
 obtain⟨G,hx,h2,h3⟩:=h;exact⟨G,⟨x,hx⟩,h2,h3⟩
def two (P Q:SP):SP:=⟨fun w F=>∃G K,P.holds w G∧Q.holds w K∧(∀b,G b→¬K b)∧∀b,F b↔G b∨K b,
 fun⟨G,K,h1,h2,_,h4⟩ b hb=>by rcases(h4 b).1 hb with h|h;exact P.lt h1 b h;exact Q.lt h2 b h,
 fun⟨G,K,h1,h2,h3,h4⟩ a=>⟨G,K,P.stay h1 ⟨a.os,a.tape,a.output,a.size,fun b hb=>a.keep b ((h4 b).2 (.inl hb))⟩,Q.stay h2 ⟨a.os,a.tape,a.output,a.size,fun b hb=>a.keep b ((h4 b).2 (.inr hb))⟩,h3,h4⟩⟩
theorem Sat.openTwo {P Q:SP}{l:List SP}{w:World}(h:Sat w (two P Q::l)):Sat w (P::Q::l):=by
 obtain⟨F,⟨G,K,h1,h2,h3,h4⟩,_,h6⟩:=h;exact⟨G,h1,fun _ _=>trivial,K,h2,fun b hb=>⟨trivial,fun hg=>h3 b hg hb⟩,h6.mono (fun b hb=>⟨⟨trivial,fun hg=>hb.2 ((h4 b).2 (.inl hg))⟩,fun hk=>hb.2 ((h4 b).2 (.inr hk))⟩)⟩
theorem Sat.closeTwo {P Q:SP}{l:List SP}{w:World}(h:Sat w (P::Q::l)):Sat w (two P Q::l):=by
 obtain⟨G,h1,_,K,k1,k2,k3⟩:=h;exact⟨fun b=>G b∨K b,⟨G,K,h1,k1,fun b hg hk=>(k2 b hk).2 hg,fun b=>Iff.rfl⟩,fun _ _=>trivial,k3.mono (fun b hb=>⟨trivial,fun h=>by rcases h with h|h;exact hb.1.2 h;exact hb.2 h⟩)⟩
def Zcl (p:Prop):SP:=⟨fun _ F=>p∧∀b,¬F b,fun h b hb=>absurd hb (h.2 b),fun h _=>h⟩
theorem Sat.openPure {p:Prop}{l:List SP}{w:World}(h:Sat w (Zcl p::l)):p∧Sat w l:=⟨h.choose_spec.1.1,h.tail⟩
theorem Sat.closePure {p:Prop}{l:List SP}{w:World}(hp:p)(h:Sat w l):Sat w (Zcl p::l):=⟨fun _=>False,⟨hp,fun _ x=>x⟩,fun _ x=>x.elim,h.mono (fun _ _=>⟨trivial,fun x=>x⟩)⟩
def old (W:World):SP:=⟨fun w F=>(w.os=W.os∧w.tape=W.tape∧w.output=W.output∧W.heap.size≤w.heap.size∧∀b,b<W.heap.size→w.heap[b]? =W.heap[b]?)∧∀b,F b↔b<W.heap.size,
 fun h b hb=>Nat.lt_of_lt_of_le ((h.2 b).1 hb) h.1.2.2.2.1,
 fun h a=>⟨⟨a.os.trans h.1.1,a.tape.trans h.1.2.1,a.output.trans h.1.2.2.1,Nat.le_trans h.1.2.2.2.1 a.size,fun b hb=>(a.keep b ((h.2 b).2 hb)).trans (h.1.2.2.2.2 b hb)⟩,h.2⟩⟩
theorem Sat.start (W:World):Sat W [old W]:=⟨fun b=>b<W.heap.size,⟨⟨rfl,rfl,rfl,Nat.le_refl _,fun _ _=>rfl⟩,fun _=>Iff.rfl⟩,fun _ _=>trivial,trivial⟩
theorem Sat.below {W w:World}{l:List SP}{i:Nat}(h:Sat w l)(hi:l[i]? =some (old W)):Below W.heap.size W w:=by
 obtain⟨G,⟨h1,h2⟩,_⟩:=Sat.pick i hi h;exact⟨h1.1,h1.2.1,h1.2.2.1,h1.2.2.2.1,h1.2.2.2.2⟩
def blk (b:Nat)(T:TypeId)(cs:List Value):SP:=⟨fun w F=>Blk w b T cs∧∀x,F x↔x=b,
 fun h x hx=>by rw[(h.2 x).1 hx];exact h.1.lt,fun h a=>⟨(a.keep b ((h.2 b).2 rfl)).trans h.1,h.2⟩⟩
def row {α :Type} (E:Enc α) (T:TypeId) (v:Value) (xs:List α):SP:=⟨fun w F=>Row E T w F v xs,fun h=>h.lt,
  fun {w w' F} h a=>by
    rcases h with h|⟨b,o,c,cur,h1,rfl,hb,r⟩
    · exact .inl h
    · exact .inr ⟨b,o,c,cur,h1,rfl,(a.keep b rfl).trans hb,r⟩⟩
def mxI (a b:Int):Int:=if b>a then b else a
def mnI (a b:Int):Int:=if b<a then b else a
def look (L :List (Nat×Value)) (t:Nat) (d:Value):Value:=
  match L with
  | []=>d
  | p::r=>match Nat.beq p.1 t with
    |true=>p.2
    |false=>look r t d
def ZfZ (L :List (Nat×Value)) (t:Nat):Bool:=
  match L with
  | []=>false
  | p::r=>match Nat.beq p.1 t with
    |true=>true
    |false=>ZfZ r t
def ZaD (L:List (Nat×Value))(rest:Nat→Value):Operand→Value
 | .tmp t=>look L t (rest t)
 | .const v=>v
 | .global g=> .pointer (some ⟨g,0,none⟩)
 | .func f=> .func (.func f) #[] #[]
def ZbM (n:Nat)(L:List (Nat×Value))(rest:Nat→Value):Act:={tmps:=Array.ofFn (n:=n) fun t=>look L t.1 (rest t.1),defers:=[]}
def OkL (n:Nat)(L:List (Nat×Value))(rest:Nat→Value):Prop:=∀t,n≤t→look L t (rest t)=undef
theorem ZhW {n t:Nat}{L:List (Nat×Value)}{rest:Nat→Value}(h:OkL n L rest):(ZbM n L rest).tmps.getD t undef=look L t (rest t):=by
 unfold ZbM;by_cases ht:t<n
 ·simp[Array.getD,ht]
 ·simp[Array.getD,ht,h t (by omega)]
theorem Zby {n:Nat}{L:List (Nat×Value)}{rest:Nat→Value}(h:OkL n L rest):(ZbM n L rest).eval=ZaD L rest:=by
 funext x;cases x with
 |tmp t=>exact ZhW h
 |_=>rfl
def ZdJ (d:Option Tmp)(v:Value)(L:List (Nat×Value)):List (Nat×Value):=match d with|some t=>(t,v)::L|none=>L
theorem Zd2 (t s:Nat)(v d:Value)(L:List (Nat×Value)):look ((s,v)::L) t d=if s=t then v else look L t d:=by
 simp only[look];by_cases h:s=t
 ·subst h;rw[if_pos rfl,show Nat.beq s s=true from Nat.beq_refl s]
 ·rw[if_neg h]
  cases hb:Nat.beq s t with
  |true=>exact absurd (Nat.eq_of_beq_eq_true hb) h
  |false=>rfl
theorem Zbv {n:Nat}{L:List (Nat×Value)}{rest:Nat→Value}(d:Option Tmp)(v:Value):(ZbM n L rest).put d v=ZbM n (ZdJ d v L) rest:=by
  cases d with
  |none=>rfl
  | some t=>
    simp only[Act.put,ZbM,ZdJ];congr 1;apply Array.ext
    · simp
    · intro i h1 h2
      simp only[Array.size_setIfInBounds,Array.size_ofFn]at h1;rw[Array.getElem_setIfInBounds (by simpa using h1)];simp only[Array.getElem_ofFn,Zd2]
def ZhK (n:Nat):Option Tmp→Bool
 |some t=>Nat.ble (t+1) n
 |none=>true
theorem Zb5 {n:Nat}{L:List (Nat×Value)}{rest:Nat→Value}{d:Option Tmp}{v:Value}(h:OkL n L rest)(hd:ZhK n d=true):OkL n (ZdJ d v L) rest:=by
  cases d with
  |none=>exact h
  | some t=>
    have ht:Nat.succ t≤n:=Nat.le_of_ble_eq_true hd;intro s hs;simp only[ZdJ,Zd2];rw[if_neg (fun e=>by subst e;exact Nat.not_lt.2 hs ht)];exact h s hs
def PT (n:Nat)(L:List (Nat×Value))(H:List SP)(Φ:Act→World→Prop):Prop:=∀rest w,OkL n L rest→Sat w H→Φ (ZbM n L rest) w
def Zd4 : List Nat→List (Nat×Value)→Option (List (Nat×Value))
  | [],_=>some []
  | t::ts,L=>match ZfZ L t with
    |true=>(Zd4 ts L).map ((t,look L t undef):: ·)
    |false=>none
theorem Zoq {L:List (Nat×Value)}{t:Nat}(h:ZfZ L t=true)(d e:Value):look L t d=look L t e:=by
  induction L with
  |nil=>simp[ZfZ]at h
  | cons p r ih=>
    simp only[look,ZfZ]at h ⊢;cases hb:Nat.beq p.1 t with
    |true=>rfl
    |false=>rw[hb]at h;exact ih h
theorem Ze7 {L :List (Nat×Value)}:∀{ks:List Nat} {L':List (Nat×Value)},Zd4 ks L=some L'→∀t d,look L' t (look L t d)=look L t d
  | [],L',h,t,d=>by simp[Zd4]at h;subst h;rfl
  | k ::ks,L',h,t,d=>by
    simp only[Zd4]at h;cases hk:ZfZ L k with
    |false=>rw[hk]at h;cases h
    | true=>
      rw[hk]at h;simp only at h;cases hr:Zd4 ks L with
      |none=>rw[hr]at h;cases h
      | some M=>
        rw[hr]at h;simp at h;subst h;rw[Zd2];split
        · rename_i e;subst e;exact Zoq hk _ _
        · exact Ze7 hr t d
theorem PT.keep {n:Nat}{L L':List (Nat×Value)}{H:List SP}{Φ:Act→World→Prop}(ks:List Nat)(hk:Zd4 ks L=some L')(h:PT n L' H Φ):PT n L H Φ:=by
 intro rest w ho hs;have e:ZbM n L rest=ZbM n L' (fun t=>look L t (rest t)):=by
  simp only[ZbM];congr 1;apply Array.ext
  ·simp
  ·intro i h1 h2
   simp only[Array.getElem_ofFn];exact(Ze7 hk _ _).symm
 rw[e];exact h _ w (fun t ht=>by rw[Ze7 hk];exact ho t ht) hs
theorem PT.mono {n:Nat}{L:List (Nat×Value)}{H:List SP}{Φ Ψ:Act→World→Prop}(h:PT n L H Φ)(hm:∀a w,Φ a w→Ψ a w):PT n L H Ψ:=fun rest w ho hs=>hm _ _ (h rest w ho hs)
theorem PT.sat {n:Nat}{L:List (Nat×Value)}{H H':List SP}{Φ:Act→World→Prop}(hs:∀w,Sat w H→Sat w H')(h:PT n L H' Φ):PT n L H Φ:=fun rest w ho h1=>h rest w ho (hs w h1)
theorem PT.drop {n:Nat}{L:List (Nat×Value)}{P:SP}{H:List SP}{Φ:Act→World→Prop}(h:PT n L H Φ):PT n L (P::H) Φ:=fun rest w ho hs=>h rest w ho hs.tail
theorem PT.openEx {ι:Type}{f:ι→SP}{n:Nat}{L:List (Nat×Value)}{H:List SP}{Φ:Act→World→Prop}(h:∀x,PT n L (f x::H) Φ):PT n L (exS f::H) Φ:=fun rest w ho hs=>by
 obtain⟨x,hx⟩:=Sat.openEx hs;exact h x rest w ho hx
theorem PT.openPure {p:Prop}{n:Nat}{L:List (Nat×Value)}{H:List SP}{Φ:Act→World→Prop}(h:p→PT n L H Φ):PT n L (Zcl p::H) Φ:=fun rest w ho hs=>by
 obtain⟨hp,hx⟩:=Sat.openPure hs;exact h hp rest w ho hx
theorem PT.openTwo {P Q:SP}{n:Nat}{L:List (Nat×Value)}{H:List SP}{Φ:Act→World→Prop}(h:PT n L (P::Q::H) Φ):PT n L (two P Q::H) Φ:=fun rest w ho hs=>h rest w ho (Sat.openTwo hs)
theorem PT.pick {n:Nat}{L:List (Nat×Value)}{H:List SP}{Φ:Act→World→Prop}(i:Nat){P:SP}(hi:H[i]? =some P)(h:PT n L (P::H.eraseIdx i) Φ):PT n L H Φ:=fun rest w ho hs=>h rest w ho (Sat.pick i hi hs)
theorem PT.know {p:Prop}{n:Nat}{L:List (Nat×Value)}{H:List SP}{Φ:Act→World→Prop}(hk:∀w,Sat w H→p)(h:p→PT n L H Φ):PT n L H Φ:=fun rest w ho hs=>h (hk w hs) rest w ho hs
def sub :Code→Nat→Code
 | .seq a _,0=>a
 | .seq _ b,_=>b
 | .cond _ a _,0=>a
 | .cond _ _ b,_=>b
 | .block _ b,_=>b
 | .loop b,_=>b
 | .scope b,_=>b
 |_,_=> .skip
def at' (c:Code)(p:List Nat):Code:=p.foldl sub c
def Zj2 (f:Func):Code:=f.body.getD .skip
inductive Kind where|skip|region (draw:Bool)|seq|cond|block|loop|scope|exit|label|goto|ret|other
def ZaG :Code→Kind
 | .skip=> .skip
 | .region _ _ d=> .region d
 | .seq _ _=> .seq
 | .cond _ _ _=> .cond
 | .block _ _=> .block
 | .loop _=> .loop
 | .scope _=> .scope
 | .exit _=> .exit
 | .label _=> .label
 | .goto _=> .goto
 | .ret=> .ret
 |_=> .other
def Zas :Code→List Oper
 | .region _ ops _=>ops.toList
 |_=> []
def Zmt :Code→Nat
 | .block i _=>i
 | .exit i=>i
 | .goto l=>l
 | .label l=>l
 | .region i _ _=>i
 |_=>0
def Zjp :Code→Operand
 | .cond x _ _=>x
 |_=> .const (.bool false)
section
variable {P :Program}{n:Nat}{L:List (Nat×Value)}{H:List SP}{Q:Exit→Act→World→Prop}{c:Code}
def CT (P:Program)(n:Nat)(L:List (Nat×Value))(H:List SP)(c:Code)(Q:Exit→Act→World→Prop):Prop:=PT n L H fun a w=>c.wp P Q a w
def RT (P:Program)(n:Nat)(L:List (Nat×Value))(H:List SP)(c:Code)(i m:Nat)(Q:Exit→Act→World→Prop):Prop:=PT n L H fun a w=>wpList P (Zas c).toArray Q (((Zas c).drop i).take m) a w
theorem seqR (hk:ZaG c= .seq)(h:CT P n L H (sub c 0) (Exit.then (fun a w=>(sub c 1).wp P Q a w) Q)):CT P n L H c Q:=by
 cases c<;>simp[ZaG]at hk;exact h.mono fun a w h=>wp_seq h
theorem ZsF (hk:ZaG c= .skip)(h:PT n L H (Q .normal)):CT P n L H c Q:=by
 cases c<;>simp[ZaG]at hk;exact h.mono fun a w h=>wp_skip h
theorem ZcY (hk:ZaG c= .label)(h:PT n L H (Q .normal)):CT P n L H c Q:=by
 cases c<;>simp[ZaG]at hk;exact h.mono fun a w h=>wp_label h
theorem retR (hk:ZaG c= .ret)(h:PT n L H (Q .ret)):CT P n L H c Q:=by
 cases c<;>simp[ZaG]at hk;exact h.mono fun a w h=>wp_ret h
theorem ZsZ (l:Nat)(hk:ZaG c= .exit)(hl:Zmt c=l)(h:PT n L H (Q (.exit l))):CT P n L H c Q:=by
 subst hl;cases c<;>simp[ZaG]at hk;exact h.mono fun a w h=>wp_exit h
theorem Zep (l:Nat)(hk:ZaG c= .goto)(hl:Zmt c=l)(h:PT n L H (Q (.goto l))):CT P n L H c Q:=by
 subst hl;cases c<;>simp[ZaG]at hk;exact h.mono fun a w h=>wp_goto h
theorem Zsm (l:Nat)(hk:ZaG c= .block)(hl:Zmt c=l)(h:CT P n L H (sub c 0) (Exit.inBlock l Q)):CT P n L H c Q:=by
 subst hl;cases c<;>simp[ZaG]at hk;exact h.mono fun a w h=>wp_block h
theorem ZqR {b:Bool}(hk:ZaG c= .cond)(hb:∀rest,ZaD L rest (Zjp c)= .bool b)(h1:b=true→CT P n L H (sub c 0) Q)(h2:b=false→CT P n L H (sub c 1) Q):CT P n L H c Q:=by
 cases c<;>simp[ZaG]at hk;intro rest w ho hs;refine wp_cond (t:=b) (by rw[Zby ho];exact hb rest) ?_;cases b with
 |true=>exact h1 rfl rest w ho hs
 |false=>exact h2 rfl rest w ho hs
theorem Zqe (m:Nat)(hk:ZaG c= .region false)(hm:(Zas c).length=m)(h:RT P n L H c 0 m Q):CT P n L H c Q:=by
 subst hm;cases c<;>simp[ZaG]at hk;rename_i id ops draw;subst hk;exact h.mono fun a w h=>wp_region_list (by
  simp only[Zas,List.drop_zero,List.take_length]at h;simpa using h)
theorem endR {i:Nat}(h:PT n L H (Q .normal)):RT P n L H c i 0 Q:=by
 unfold RT;rw[List.take_zero];exact h
theorem Oper.wp_then {o :Oper} {a:Act} {w:World} {K K2:Act→World→Prop} (h:Oper.wp P o a w K (Exit.then K2 Q)):Oper.wp P o a w K Q:=by
  unfold Oper.wp at*;generalize(execOp a.eval o).run P w=r at*;cases r with
  | ok x w'=>
    cases x<;>simp only[Oper.upon]at h ⊢ <;>
      first
        |exact h
        |exact Calls.mono h (fun e w'' he=>by cases e<;>exact he)
  |halt x w'=>cases x<;>simp only[Oper.upon]at h ⊢ <;>exact h
theorem wpList_app {ops:Array Oper}:∀(l1 l2:List Oper) {a:Act} {w:World},wpList P ops (Exit.then (fun a w=>wpList P ops Q l2 a w) Q) l1 a w→wpList P ops Q (l1++l2) a w
  | [],l2,a,w,h=>h
  | o ::l1,l2,a,w,h=>by
    rw[List.cons_append];unfold wpList at h ⊢;split
    · rename_i hw
      rw[if_pos hw]at h;rcases h with h|h
      · exact .inl (Oper.wp_mono (fun a w hh=>wpList_app l1 l2 hh) (Oper.wp_then h))
      · exact .inr h
    · rename_i hw
      rw[if_neg hw]at h;exact wpList_app l1 l2 h
def At {ι:Type}(n:Nat)(Lx:ι→List (Nat×Value))(Hx:ι→List SP)(R:Nat→ι→Prop)(k:Nat)(a:Act)(w:World):Prop:=∃x,R k x∧∃rest,OkL n (Lx x) rest∧a=ZbM n (Lx x) rest∧Sat w (Hx x)
def Zji {ι:Type}(n:Nat)(Lx:ι→List (Nat×Value))(Hx:ι→List SP)(R:Nat→ι→Prop)(k:Nat)(a:Act)(w:World):Prop:=∃k',k'<k∧At n Lx Hx R k' a w
theorem Za3 {ι:Type}{Lx:ι→List (Nat×Value)}{Hx:ι→List SP}{R:Nat→ι→Prop}{k:Nat}(k':Nat)(x:ι)(hL:L=Lx x)(hH:H=Hx x)(hk:k'<k)(hr:R k' x):PT n L H (Zji n Lx Hx R k):=
 fun rest w ho hs=>⟨k',hk,x,hr,rest,hL▸ho,by rw[hL],hH▸hs⟩
theorem ZbV {ι:Type}(Lx:ι→List (Nat×Value))(Hx:ι→List SP)(R:Nat→ι→Prop)(k:Nat)(x:ι)(hk:ZaG c= .loop)(h0:R k x)
  (round:∀k x,R k x→CT P n (Lx x) (Hx x) (sub c 0) (Exit.then (Zji n Lx Hx R k) Q)):CT P n (Lx x) (Hx x) c Q:=by
 cases c<;>simp[ZaG]at hk;intro rest w ho hs;refine wp_loop_ghost (At n Lx Hx R) k ⟨x,h0,rest,ho,rfl,hs⟩ ?_;rintro k' a w ⟨x',hr,rest',ho',rfl,hs'⟩;exact round k' x' hr rest' w ho' hs'
def labOf (c:Code)(l:Nat):Code:=(findLabel c l).getD .skip
def ZrZ (c:Code)(l:Nat):Bool:=(findLabel c l).isSome
def behind (c:Code)(l:Nat):Code:=sub (labOf c l) 1
theorem ZcW {ι:Type}(l:Nat)(Lx:ι→List (Nat×Value))(Hx:ι→List SP)(R:Nat→ι→Prop)(hk:ZaG c= .scope)(hl:ZrZ (sub c 0) l=true)(hs1:ZaG (labOf (sub c 0) l)= .seq)(hs0:ZaG (sub (labOf (sub c 0) l) 0)= .skip)
  (round:∀k x,R k x→∀K,(∀k' x',k'<k→R k' x'→PT n (Lx x') (Hx x') K)→CT P n (Lx x) (Hx x) (behind (sub c 0) l) (Exit.jump l K Q))
  (first:∀K,(∀k x,R k x→CT P n (Lx x) (Hx x) (behind (sub c 0) l) (Exit.jump l K Q))→CT P n L H (sub c 0) (Exit.jump l K Q)):CT P n L H c Q:=by
 cases c<;>simp[ZaG]at hk;rename_i body;have hf:findLabel body l=some (labOf body l):=by
  unfold labOf;have:(findLabel body l).isSome=true:=hl;cases h:findLabel body l with
  |none=>rw[h]at this;cases this
  |some y=>rfl
 have round':∀k x,R k x→CT P n (Lx x) (Hx x) (behind body l) (Exit.jump l (Zji n Lx Hx R k) Q):=fun k x hr=>
  round k x hr _ (fun k' x' hk' hr' rest w ho hs=>⟨k',hk',x',hr',rest,ho,rfl,hs⟩)
 have jm:∀(K K':Act→World→Prop) (hKK:∀a w,K a w→K' a w) (e:Exit) (a:Act) (w:World),Exit.jump l K Q e a w→Exit.jump l K' Q e a w:=by
  intro K K' hKK e a w h;cases e<;>first|exact h|exact⟨h.1,hKK _ _ h.2⟩
 intro rest w ho hs;refine wp_scope_jumps l (fun a w=>∃k,At n Lx Hx R k a w) (fun a w=>leastOf (fun k=>At n Lx Hx R k a w)) hf ?_ ?_
 ·refine first _ ?_ rest w ho hs
  intro k x hr rest' w' ho' hs';exact wp_mono (round' k x hr rest' w' ho' hs') (jm _ _ (fun a w ⟨k',_,h⟩=>⟨k',h⟩))
 ·intro a w hJ
  obtain⟨x,hr,rest',ho',ha,hs'⟩:=(leastOf_spec hJ).1;have h1:=round' _ x hr rest' w ho' hs';rw[←ha]at h1;have h2:(labOf body l).wp P (Exit.jump l (Zji n Lx Hx R (leastOf (fun k=>At n Lx Hx R k a w))) Q) a w:=by
   have e1:ZaG (labOf body l)= .seq:=hs1;have e0:ZaG (sub (labOf body l) 0)= .skip:=hs0;have h1':(sub (labOf body l) 1).wp P (Exit.jump l (Zji n Lx Hx R (leastOf (fun k=>At n Lx Hx R k a w))) Q) a w:=h1;generalize labOf body l=y at e1 e0 h1';cases y<;>simp[ZaG]at e1;rename_i y0 y1;have e0':ZaG y0= .skip:=e0;cases y0<;>simp[ZaG]at e0';exact wp_seq (wp_skip h1')
  exact wp_mono h2 (jm _ _ (fun a' w' ⟨k',hlt,hat⟩=>⟨⟨k',hat⟩,Nat.lt_of_le_of_lt ((leastOf_spec ⟨k',hat⟩).2 k' hat) hlt⟩))
theorem ZeC {c':Code}(hc:c=c')(h:CT P n L H c' Q):CT P n L H c Q:=hc▸h
theorem Zen {l:Nat}{K:Act→World→Prop}(h:PT n L H K):PT n L H (Exit.jump l K Q (.goto l)):=fun rest w ho hs=>⟨rfl,h rest w ho hs⟩
def Zbp {α :Type} (P:Program):Sem α→List (Addr×Value)→Option (α×List (Addr×Addr)×List (Addr×Value))
  | .pure a,qs=>some (a,[],qs)
  | .program k,qs=>Zbp P (k P) qs
  | .mark _ k,qs=>Zbp P k qs
  | .load _ a k,qs=>match qs with
    | []=>none
    | q::qs=>match Zbp P (k q.2) qs with
      |some (x,cs,r)=>some (x,(a,q.1)::cs,r)
      |none=>none
  |_,_=>none
theorem Zbw {α :Type} {P:Program} {w:World}:∀(s:Sem α) {qs:List (Addr×Value)} {x:α} {cs:List (Addr×Addr)} {r:List (Addr×Value)},Zbp P s qs=some (x,cs,r)→(∀p∈cs,p.1=p.2)→(∀q∈qs,w.cell? q.1=some q.2)→
    s.run P w= .ok x w∧∀q∈r,q∈qs:=by
  intro s;induction s with
  | pure a=>
    intro qs x cs r h _ _;simp only[Zbp,Option.some.injEq,Prod.mk.injEq]at h;obtain⟨rfl,_,rfl⟩:=h;exact⟨rfl,fun q hq=>hq⟩
  | load m a k ih=>
    intro qs x cs r h hc ha;cases qs with
    |nil=>simp[Zbp]at h
    | cons q qs=>
      simp only[Zbp]at h;cases hk:Zbp P (k q.2) qs with
      |none=>rw[hk]at h;cases h
      | some z=>
        obtain⟨x',cs',r'⟩:=z;rw[hk]at h;simp only[Option.some.injEq,Prod.mk.injEq]at h;obtain⟨rfl,rfl,rfl⟩:=h;have e:=hc (a,q.1) (by simp);simp only at e;have hq:=ha q (by simp);obtain⟨h1,h2⟩:=ih q.2 hk (fun p hp=>hc p (by simp[hp])) (fun p hp=>ha p (by simp[hp]));refine⟨?_,fun p hp=>List.mem_cons_of_mem _ (h2 p hp)⟩;simp only[Sem.run,e,hq];exact h1
  |store=>intro qs x cs r h;simp[Zbp]at h
  |new=>intro qs x cs r h;simp[Zbp]at h
  |shape=>intro qs x cs r h;simp[Zbp]at h
  |freeze=>intro qs x cs r h;simp[Zbp]at h
  |frozen=>intro qs x cs r h;simp[Zbp]at h
  |getObj=>intro qs x cs r h;simp[Zbp]at h
  |setObj=>intro qs x cs r h;simp[Zbp]at h
  |choose=>intro qs x cs r h;simp[Zbp]at h
  |sys=>intro qs x cs r h;simp[Zbp]at h
  | program k ih=>
    intro qs x cs r h hc ha;exact ih P h hc ha
  | mark m k ih=>
    intro qs x cs r h hc ha;exact ih h hc ha
  |halt=>intro qs x cs r h;simp[Zbp]at h
def yieldL (ops :List Oper) (L:List (Nat×Value)) (rest:Nat→Value) (j:Nat):Option Bool:=
  match(ops[j]?).bind (·.dst)with
  | some t=>match look L t (rest t)with
    | .bool b=>some b
    |_=>none
  |none=>none
def Zf9 (ops :List Oper) (L:List (Nat×Value)) (rest:Nat→Value) (o:Oper):Bool:=
  match o.guard with
  |none=>true
  | some (j,b)=>match yieldL ops L rest j with
    |some c=>(match b with|true=>c|false=> !c)
    |none=>false
theorem Zb1 {n :Nat} {ops:List Oper} {L:List (Nat×Value)} {rest:Nat→Value} {o:Oper} (ho:OkL n L rest):Region.wanted o (yielded ops.toArray (ZbM n L rest).tmps)=Zf9 ops L rest o:=by
  unfold Region.wanted Zf9;cases o.guard with
  |none=>rfl
  | some g=>
    obtain⟨j,b⟩:=g;simp only;have e:yielded ops.toArray (ZbM n L rest).tmps j=yieldL ops L rest j:=by
      unfold yielded yieldL;simp only[List.getElem?_toArray];cases(ops[j]?).bind (·.dst)with
      |none=>rfl
      | some t=>
        simp only[Option.bind_some,ZbM];by_cases ht:t<n
        · rw[show(Array.ofFn (n:=n) fun t=>look L t.1 (rest t.1))[t]? =some (look L t (rest t))by simp[ht]]
          cases look L t (rest t)<;>rfl
        · rw[ho t (Nat.le_of_not_lt ht),show(Array.ofFn (n:=n) fun t=>look L t.1 (rest t.1))[t]? =none by simp[Nat.le_of_not_lt ht]]
          rfl
    rw[e];cases yieldL ops L rest j with
    |none=>rfl
    |some c=>cases b<;>cases c<;>rfl
def Zfx (P : Program) (n:Nat) (ops:List Oper):List Oper→List (Nat×Value)→(Nat→Value)→List (Addr×Value)→Option (List (Nat×Value)×List (Addr×Addr)×List (Addr×Value))
  | [],L,_,qs=>some (L,[],qs)
  | o ::os,L,rest,qs=>match ZhK n o.dst with
    |false=>none
    | true=>match Zf9 ops L rest o with
      |false=>Zfx P n ops os (ZdJ o.dst undef L) rest qs
      | true=>match Zbp P (execOp (ZaD L rest) o) qs with
        | some (.value v,cs,r)=>(match Zfx P n ops os (ZdJ o.dst v L) rest r with
          |some (L',cs',r')=>some (L',cs++cs',r')
          |none=>none)
        | some (.skip,cs,r)=>(match Zfx P n ops os (ZdJ o.dst undef L) rest r with
          |some (L',cs',r')=>some (L',cs++cs',r')
          |none=>none)
        |_=>none
theorem ZeW {ops : List Oper} {w:World} {rest:Nat→Value} {tail:List Oper}:∀(os:List Oper) {L L':List (Nat×Value)} {qs r:List (Addr×Value)} {cs:List (Addr×Addr)},Zfx P n ops os L rest qs=some (L',cs,r)→OkL n L rest→(∀p∈cs,p.1=p.2)→(∀q∈qs,w.cell? q.1=some q.2)→
    (OkL n L' rest→wpList P ops.toArray Q tail (ZbM n L' rest) w)→wpList P ops.toArray Q (os++tail) (ZbM n L rest) w
  | [],L,L',qs,r,cs,h,ho,_,_,hq=>by
    simp only[Zfx,Option.some.injEq,Prod.mk.injEq]at h;obtain⟨rfl,_,_⟩:=h;exact hq ho
  | o ::os,L,L',qs,r,cs,h,ho,hc,ha,hq=>by
    simp only[Zfx]at h;cases hd:ZhK n o.dst with
    |false=>rw[hd]at h;cases h
    | true=>
      rw[hd]at h;simp only at h;rw[List.cons_append];refine wpList_step fun K hK=>?_
      rw[Zb1 ho];cases hw:Zf9 ops L rest o with
      | false=>
        rw[hw]at h;simp only at h;rw[if_neg (by simp),Zbv];exact hK _ _ (ZeW os h (Zb5 ho hd) hc ha hq)
      | true=>
        rw[hw]at h;simp only at h;rw[if_pos rfl];cases hr:Zbp P (execOp (ZaD L rest) o) qs with
        |none=>rw[hr]at h;cases h
        | some z=>
          obtain⟨x,cs1,r1⟩:=z;rw[hr]at h;have step:∀v,(match Zfx P n ops os (ZdJ o.dst v L) rest r1 with
              |some (L',cs',r')=>some (L',cs1++cs',r')
              |none=>none)=some (L',cs,r)→∃cs',Zfx P n ops os (ZdJ o.dst v L) rest r1=some (L',cs',r)∧cs=cs1++cs':=by
            intro v h;cases hz:Zfx P n ops os (ZdJ o.dst v L) rest r1 with
            |none=>rw[hz]at h;cases h
            | some z=>
              obtain⟨L2,c2,r2⟩:=z;rw[hz]at h;simp only[Option.some.injEq,Prod.mk.injEq]at h;obtain⟨rfl,rfl,rfl⟩:=h;exact⟨c2,rfl,rfl⟩
          cases x with
          | value v=>
            obtain⟨cs',h1,rfl⟩:=step v h;obtain⟨hrun,hsub⟩:=Zbw (w:=w) _ hr (fun p hp=>hc p (by simp[hp])) ha;unfold Oper.wp;rw[Zby ho,hrun,Oper.upon_value,Zbv];exact hK _ _ (ZeW os h1 (Zb5 ho hd) (fun p hp=>hc p (by simp[hp])) (fun q hq=>ha q (hsub q hq)) hq)
          | skip=>
            obtain⟨cs',h1,rfl⟩:=step undef h;obtain⟨hrun,hsub⟩:=Zbw (w:=w) _ hr (fun p hp=>hc p (by simp[hp])) ha;unfold Oper.wp;rw[Zby ho,hrun,Oper.upon_skip,Zbv];exact hK _ _ (ZeW os h1 (Zb5 ho hd) (fun p hp=>hc p (by simp[hp])) (fun q hq=>ha q (hsub q hq)) hq)
          |_=>cases h
def Zl2 (P :Program) (n:Nat) (ops:List Oper) (i m:Nat) (ks:List Nat) (L:List (Nat×Value)) (rest:Nat→Value) (qs:List (Addr×Value)):Option (List (Nat×Value)×List (Addr×Addr)):=
  match Zfx P n ops ((ops.drop i).take m) L rest qs with
  | some (L',cs,_)=>(match Zd4 ks L' with
    |some L2=>some (L2,cs)
    |none=>none)
  |none=>none
theorem Zrt {i z:Nat} (m:Nat) (ks:List Nat) (L':List (Nat×Value)) (qs:List (Addr×Value)) (has:∀w,Sat w H→∀q∈qs,w.cell? q.1=some q.2)
    (h:∀rest,Zl2 P n (Zas c) i m ks L rest qs=some (L',qs.map fun q=>(q.1,q.1))) (hn:RT P n L' H c (i+m) z Q):RT P n L H c i (m+z) Q:=by
  intro rest w ho hs;have h1:=h rest;unfold Zl2 at h1;cases hr:Zfx P n (Zas c) (((Zas c).drop i).take m) L rest qs with
  |none=>rw[hr]at h1;cases h1
  | some z=>
    obtain⟨L2,cs,r⟩:=z;rw[hr]at h1;simp only at h1;cases hk:Zd4 ks L2 with
    |none=>rw[hk]at h1;cases h1
    | some L3=>
      rw[hk]at h1;simp only[Option.some.injEq,Prod.mk.injEq]at h1;obtain⟨rfl,rfl⟩:=h1;have e:((Zas c).drop i).take (m+z)=((Zas c).drop i).take m++((Zas c).drop (i+m)).take z:=by
        rw[List.take_add,List.drop_drop]
      rw[e];refine ZeW _ hr ho (by intro p hp;obtain⟨q,_,rfl⟩:=List.mem_map.1 hp;rfl) (has w hs) (fun ho2=>?_);exact PT.keep ks hk hn rest w ho2 hs
theorem Zss {i z:Nat}(m:Nat)(ks:List Nat)(L':List (Nat×Value))(h:∀rest,Zl2 P n (Zas c) i m ks L rest []=some (L',[]))(hn:RT P n L' H c (i+m) z Q):RT P n L H c i (m+z) Q:=
 Zrt m ks L' [] (fun _ _ _ hq=>by simp at hq) h hn
def Za5 (c:Code)(i:Nat):Oper:=((Zas c)[i]?).getD {dst:=none,op:= .ready 0,type:=0,pos:= "",after:= #[],guard:=some (0,true)}
def Zte (c:Code)(i:Nat):Bool:=((Zas c)[i]?).isSome
def Zcc (n:Nat)(c:Code)(i:Nat)(L:List (Nat×Value))(rest:Nat→Value):Bool:=Zte c i&&ZhK n (Za5 c i).dst&&Zf9 (Zas c) L rest (Za5 c i)
theorem Zfi {i:Nat}{rest:Nat→Value}(h:Zcc n c i L rest=true):(Zas c).drop i=Za5 c i::(Zas c).drop (i+1)∧ZhK n (Za5 c i).dst=true∧Zf9 (Zas c) L rest (Za5 c i)=true:=by
 simp only[Zcc,Bool.and_eq_true]at h;obtain⟨⟨h1,h2⟩,h3⟩:=h;refine⟨?_,h2,h3⟩;have hi:i< (Zas c).length:=by
  unfold Zte at h1;cases ho:(Zas c)[i]? with
  |none=>rw[ho]at h1;cases h1
  |some o=>exact(gSs ho).1
 rw[List.drop_eq_getElem_cons hi];simp[Za5,hi]
def Step {ι:Type}(P:Program)(n:Nat)(L:List (Nat×Value))(H:List SP)(c:Code)(i:Nat)(d:Option Tmp)(rv:ι→Value)(Hx:ι→List SP):Prop:=
 (∀rest,Zcc n c i L rest=true)∧(Za5 c i).dst=d∧∀rest w,OkL n L rest→Sat w H→∀(K:Act→World→Prop) (Q:Exit→Act→World→Prop),(∀x w',Sat w' (Hx x)→K (ZbM n (ZdJ d (rv x) L) rest) w')→(Za5 c i).wp P (ZbM n L rest) w K Q
theorem ZnP {ι:Type}{i z:Nat}{d:Option Tmp}{rv:ι→Value}{Hx:ι→List SP}(hst:Step P n L H c i d rv Hx)(hn:∀x,RT P n (ZdJ d (rv x) L) (Hx x) c (i+1) z Q):RT P n L H c i (z+1) Q:=by
 obtain⟨hg,hd,h⟩:=hst;intro rest w ho hs;obtain⟨h1,h2,h3⟩:=Zfi (hg rest);rw[h1,List.take_succ_cons];refine wpList_step fun K hK=>?_
 rw[Zb1 ho,h3,if_pos rfl];exact h rest w ho hs K Q (fun x w' hs'=>hK _ _ (hn x rest w' (Zb5 ho (hd▸h2)) hs'))
theorem valueS {ι:Type}{i:Nat}(d:Option Tmp)(rv:ι→Value)(Hx:ι→List SP)(hg:∀rest,Zcc n c i L rest=true)(hd:(Za5 c i).dst=d)
  (h:∀rest w,OkL n L rest→Sat w H→∃x w',(execOp (ZaD L rest) (Za5 c i)).run P w= .ok (.value (rv x)) w'∧Sat w' (Hx x)):Step P n L H c i d rv Hx:=by
 refine⟨hg,hd,fun rest w ho hs K Q hK=>?_⟩;obtain⟨x,w',hr,hs'⟩:=h rest w ho hs;unfold Oper.wp;rw[Zby ho,hr,Oper.upon_value,Zbv,hd];exact hK x w' hs'
theorem skipS {i:Nat}(H':List SP)(hg:∀rest,Zcc n c i L rest=true)(hd:(Za5 c i).dst=none)
  (h:∀rest w,OkL n L rest→Sat w H→∃w',(execOp (ZaD L rest) (Za5 c i)).run P w= .ok .skip w'∧Sat w' H'):Step (ι:=Unit) P n L H c i none (fun _=>undef) (fun _=>H'):=by
 refine⟨hg,hd,fun rest w ho hs K Q hK=>?_⟩;obtain⟨w',hr,hs'⟩:=h rest w ho hs;unfold Oper.wp;rw[Zby ho,hr,Oper.upon_skip,Zbv,hd];exact hK () w' hs'
def Ret {ι:Type}(rv:ι→Value)(Hx:ι→List SP)(e:Ending)(w:World):Prop:=∃x,e= .returned (rv x)∧Sat w (Hx x)
def Zgx (P :Program) (n:Nat) (c:Code) (i:Nat) (L:List (Nat×Value)) (rest:Nat→Value):Option (FuncId×List Value×Option Tmp):=
  match Zcc n c i L rest with
  | true=>(match Zbp P (execOp (ZaD L rest) (Za5 c i)) [] with
    |some (.enter f vs,[],_)=>some (f,vs.toList,(Za5 c i).dst)
    |_=>none)
  |false=>none
theorem ZoN {ι : Type} {i:Nat} (f:FuncId) (vs:List Value) (d:Option Tmp) (rv:ι→Value) (Hx:ι→List SP) (he:∀rest,Zgx P n c i L rest=some (f,vs,d))
    (hc:∀w,Sat w H→Calls P f vs.toArray w (Ret rv Hx)):Step P n L H c i d rv Hx:=by
  have key:∀rest,Zcc n c i L rest=true∧(Za5 c i).dst=d∧Zbp P (execOp (ZaD L rest) (Za5 c i)) []=some (.enter f vs.toArray,[],[]):=by
    intro rest;have h0:=he rest;unfold Zgx at h0;cases hg:Zcc n c i L rest with
    |false=>rw[hg]at h0;cases h0
    | true=>
      rw[hg]at h0;simp only at h0;cases hr:Zbp P (execOp (ZaD L rest) (Za5 c i)) [] with
      |none=>rw[hr]at h0;cases h0
      | some z=>
        obtain⟨x,cs,r⟩:=z;rw[hr]at h0;cases x with
        | enter f' vs'=>
          cases cs with
          |cons _ _=>cases h0
          | nil=>
            simp only[Option.some.injEq,Prod.mk.injEq]at h0;obtain⟨rfl,rfl,rfl⟩:=h0;have hsub:=(Zbw (w:=default) _ hr (fun p hp=>by simp at hp) (fun p hp=>by simp at hp)).2;cases r with
            |nil=>exact⟨rfl,rfl,by simp⟩
            |cons q r=>exact absurd (hsub q (by simp)) (by simp)
        |_=>cases h0
  refine⟨fun rest=>(key rest).1,(key fun _=>undef).2.1,fun rest w ho hs K Q hK=>?_⟩;obtain⟨_,hd,hr⟩:=key rest;obtain⟨hrun,_⟩:=Zbw (w:=w) _ hr (fun p hp=>by simp at hp) (fun p hp=>by simp at hp);unfold Oper.wp;rw[Zby ho,hrun,Oper.upon_enter];refine(hc w hs).mono ?_;rintro e w' ⟨x,rfl,hs'⟩;show K ((ZbM n L rest).put (Za5 c i).dst (rv x)) w';rw[Zbv,hd];exact hK x w' hs'
def Zq1 :Nat→List Value→List (Nat×Value)
 |_,[]=> []
 |i,v::vs=>(i,v)::Zq1 (i+1) vs
theorem Ze8 :∀(vs:List Value) (i t:Nat) (d:Value),look (Zq1 i vs) t d=if i≤t then(vs[t-i]?).getD d else d
  | [],i,t,d=>by simp[Zq1,look]
  | v ::vs,i,t,d=>by
    rw[Zq1,Zd2,Ze8 vs (i+1) t d];by_cases h:i=t
    · subst h;simp
    · rw[if_neg h]
      by_cases h2:i≤t
      · rw[if_pos (by omega),if_pos h2,show t-i=(t- (i+1))+1 by omega,List.getElem?_cons_succ]
      · rw[if_neg (by omega),if_neg h2]
theorem Zr5 {f :FuncId} {fn:Func} {R:Ending→World→Prop} (n:Nat) (vs:List Value) (hf:P.funcs[f]? =some fn) (hb:fn.body.isSome=true) (hn:fn.ntmps=n) (hl:Nat.ble vs.length n=true)
    (h:CT P n (Zq1 0 vs) H (Zj2 fn) (bodyPost P fn R)):∀w,Sat w H→Calls P f vs.toArray w R:=by
  intro w hs;have hb':fn.body=some (Zj2 fn):=by
    unfold Zj2;cases hq:fn.body with
    |none=>rw[hq]at hb;cases hb
    |some c=>rfl
  refine calls_of_wp hf hb' ?_;have hl':=Nat.le_of_ble_eq_true hl;have e:({tmps:=vs.toArray++Array.replicate (fn.ntmps-vs.toArray.size) undef,defers:=[]}:Act)=ZbM n (Zq1 0 vs) (fun _=>undef):=by
    unfold ZbM;congr 1;rw[hn];apply Array.ext
    · simp;omega
    · intro i h1 h2
      simp only[Array.size_ofFn]at h2;rw[Array.getElem_ofFn,Ze8];by_cases hi:i<vs.length
      · rw[Array.getElem_append_left (by simpa using hi)]
        simp[hi]
      · rw[Array.getElem_append_right (by simp;omega)]
        simp[List.getElem?_eq_none (Nat.le_of_not_lt hi)]
  rw[e];refine h _ w (fun t ht=>?_) hs;rw[Ze8];simp[List.getElem?_eq_none (show vs.length≤t by omega)]
def Zq5 (fn :Func) (g:Nat→Value):Sem Value:=do
  let vs←fn.results.mapM fun
    | .tmp t=>pure (g t)
    | .cell a t=>do loadVar t (←asAddr (g a))
  pure (if h:vs.size=1 then vs[0] else .tuple vs)
theorem ZkB (fn:Func)(tmps:Array Value):results fn tmps=Zq5 fn (fun t=>tmps.getD t undef):=rfl
theorem Zm8 {fn:Func}{R:Ending→World→Prop}(v:Value)(qs:List (Addr×Value))(hq:∀w,Sat w H→∀q∈qs,w.cell? q.1=some q.2)
  (h:∀rest:Nat→Value,Zbp P (Zq5 fn (fun t=>look L t (rest t))) qs=some (v,qs.map (fun q=>(q.1,q.1)),[])) (hR:∀w,Sat w H→R (.returned v) w) (e:Exit) (he:e= .normal∨e= .ret):PT n L H (bodyPost P fn R e):=by
 intro rest w ho hs;have hrun:(results fn (ZbM n L rest).tmps).run P w= .ok v w:=by
  rw[ZkB,show(fun t=>(ZbM n L rest).tmps.getD t undef)=fun t=>look L t (rest t)from funext fun t=>ZhW ho];exact(Zbw (w:=w) _ (h rest) (by intro p hp;obtain⟨q,_,rfl⟩:=List.mem_map.1 hp;rfl) (hq w hs)).1
 rcases he with rfl|rfl
 ·exact⟨rfl,v,hrun,hR w hs⟩
 ·exact⟨rfl,v,hrun,hR w hs⟩
theorem Zr8 {fn:Func}{R:Ending→World→Prop}(v:Value)(h:∀rest:Nat→Value,Zbp P (Zq5 fn (fun t=>look L t (rest t))) []=some (v,[],[]))(hR:∀w,Sat w H→R (.returned v) w)(e:Exit)(he:e= .normal∨e= .ret):PT n L H (bodyPost P fn R e):=
 Zm8 v [] (fun _ _ _ hq=>by simp at hq) h hR e he
def Yld (P:Program)(n:Nat)(L:List (Nat×Value))(S:World→Prop)(c:Code)(i:Nat)(d:Option Tmp)(v:Value):Prop:=
 (∀rest,Zcc n c i L rest=true)∧(Za5 c i).dst=d∧∀rest w,OkL n L rest→S w→(execOp (ZaD L rest) (Za5 c i)).run P w= .ok (.value v) w
theorem Zav {i:Nat}{d:Option Tmp}{v:Value}(h:Yld P n L (fun w=>Sat w H) c i d v):Step (ι:=Unit) P n L H c i d (fun _=>v) (fun _=>H):=
 valueS d _ _ h.1 h.2.1 (fun rest w ho hs=>⟨(),w,h.2.2 rest w ho hs,hs⟩)
theorem idxY {S:World→Prop}{i:Nat}(t:TypeId)(x ix:Operand)(b o len cap J sz:Nat)(E:TypeId)(j:Int)(k:IntKind)(d:Option Tmp)(hg:∀rest,Zcc n c i L rest=true)(hd:(Za5 c i).dst=d)(hop:(Za5 c i).op= .indexAddr t x ix)
  (hx:∀rest,ZaD L rest x= .slice (some ⟨b,o,none⟩) len cap) (hix:∀rest,ZaD L rest ix= .int k j) (hu:P.underlying t=some (.slice E)) (hsz:(P.info? E).map (·.size)=some sz) (hj:j=(J:Int)) (hJ:J<len):Yld P n L S c i d (.pointer (some ⟨b,o+J*sz,none⟩)):=by
 refine⟨hg,hd,fun rest w _ hs=>?_⟩;have hi:∃q,P.info? E=some q∧q.size=sz:=by
  cases hq:P.info? E with
  |none=>rw[hq]at hsz;cases hsz
  |some q=>rw[hq]at hsz;exact⟨q,rfl,by simpa using hsz⟩
 obtain⟨q,hq,hqs⟩:=hi;subst hj;unfold execOp;simp only[hop,hx rest,hix rest];simp[Instr.indexAt,asIntOf,run_underlying hu,sizeOf,typeInfo,hq,hqs,hJ,Addr.add_lit]
theorem ZoQ {S:World→Prop}{i:Nat}(op:BinOp)(t t':TypeId)(x y:Operand)(vx vy v:Value)(d:Option Tmp)(hg:∀rest,Zcc n c i L rest=true)(hd:(Za5 c i).dst=d)(hop:(Za5 c i).op= .binOp op t x y t')
    (hx:∀rest,ZaD L rest x=vx) (hy:∀rest,ZaD L rest y=vy) (hr:∀w,(do eqGuard op t x y vx vy;binOp op t vx vy:Sem Value).run P w= .ok v w):Yld P n L S c i d v:=by
  refine⟨hg,hd,fun rest w _ hs=>?_⟩;unfold execOp;simp only[hop,hx rest,hy rest];have:=hr w;simp only[Sem.run_bind]at this ⊢;revert this;generalize(eqGuard op t x y vx vy).run P w=r;cases r with
  | ok u w'=>
    simp only[Result.andThen_ok];intro this;rw[this];rfl
  |halt h w'=>intro this;cases this
def ZbC (A:Option Addr)(cap J sz:Nat):Option Addr:=if cap=J then A else A.map (·.add (J*sz))
theorem Zs3 {i:Nat}(t:TypeId)(x lo:Operand)(A:Option Addr)(len cap J sz:Nat)(E:TypeId)(j:Int)(k:IntKind)(d:Option Tmp)(hg:∀rest,Zcc n c i L rest=true)(hd:(Za5 c i).dst=d)(hop:(Za5 c i).op= .slice t x (some lo) none none)
  (hx:∀rest,ZaD L rest x= .slice A len cap) (hlo:∀rest,ZaD L rest lo= .int k j) (hu:P.underlying t=some (.slice E)) (hsz:(P.info? E).map (·.size)=some sz) (hj:j=(J:Int)) (hJ:J≤len):Step (ι:=Unit) P n L H c i d (fun _=> .slice (ZbC A cap J sz) (len-J) (cap-J)) (fun _=>H):=by
 refine valueS (ι:=Unit) d (fun _=> .slice (ZbC A cap J sz) (len-J) (cap-J)) (fun _=>H) hg hd ?_;intro rest w _ hs;refine⟨(),w,?_,hs⟩;have hi:∃q,P.info? E=some q∧q.size=sz:=by
  cases hq:P.info? E with
  |none=>rw[hq]at hsz;cases hsz
  |some q=>rw[hq]at hsz;exact⟨q,rfl,by simpa using hsz⟩
 obtain⟨q,hq,hqs⟩:=hi;subst hj;unfold execOp;simp only[hop,Option.map_some,Option.map_none,hx rest,hlo rest];simp[ZbC,Instr.sliceAt,Instr.slice,Instr.sliceBounds,Instr.sliceBound,asIntOf,run_underlying hu,sizeOf,typeInfo,hq,hqs,hJ]
theorem Zaa :∀w,Sat w H→∀q∈([]:List (Addr×Value)),w.cell? q.1=some q.2:=fun _ _ _ h=>by simp at h
theorem hasC {x:Addr}{v:Value}{qs:List (Addr×Value)}(h:∀w,Sat w H→w.cell? x=some v)(t:∀w,Sat w H→∀q∈qs,w.cell? q.1=some q.2):∀w,Sat w H→∀q∈(x,v)::qs,w.cell? q.1=some q.2:=by
 intro w hs q hq;rcases List.mem_cons.1 hq with rfl|hq
 ·exact h w hs
 ·exact t w hs q hq
theorem ZaS (i:Nat){b:Nat}{T:TypeId}{cs:List Value}(hi:H[i]? =some (blk b T cs)){j:Nat}{v:Value}(hj:cs[j]? =some v):∀w,Sat w H→w.cell? ⟨b,j,none⟩=some v:=by
 intro w hs;obtain⟨G,⟨h1,_⟩,_⟩:=Sat.pick i hi hs;rw[h1.cell j];exact hj
theorem Znr {α:Type}{P:Program}:∀(s:Sem α) {x:α} {cs:List (Addr×Addr)} {r:List (Addr×Value)},Zbp P s []=some (x,cs,r)→cs=[]:=by
 intro s;induction s with
 |pure a=>intro x cs r h;simp only[Zbp,Option.some.injEq,Prod.mk.injEq]at h;exact h.2.1.symm
 |program k ih=>intro x cs r h;exact ih P h
 |mark m k ih=>intro x cs r h;exact ih h
 |_=>intro x cs r h;simp[Zbp]at h
theorem up {P:SP}{p:World→Prop}(h:∀w,Sat w H→p w):∀w,Sat w (P::H)→p w:=fun w hs=>h w hs.tail
def ZnD {α:Type}(P:Program):Sem α→Option (Obj×(Nat→Option α))
 | .program k=>ZnD P (k P)
 | .mark _ k=>ZnD P k
 | .new o k=>some (o,fun r=>(Zbp P (k r) []).map (·.1))
 |_=>none
theorem ZjD {α:Type}{P:Program}{w:World}:∀(s:Sem α) {o:Obj} {f:Nat→Option α} {x:α},ZnD P s=some (o,f)→f w.heap.size=some x→s.run P w= .ok x (w.alloc o):=by
  intro s;induction s with
  | new o k ih=>
    intro o' f x h hx;simp only[ZnD,Option.some.injEq,Prod.mk.injEq]at h;obtain⟨rfl,rfl⟩:=h;simp only[Option.map_eq_some_iff]at hx;obtain⟨⟨y,cs,r⟩,hc,rfl⟩:=hx;have hn:=Znr _ hc;subst hn;exact(Zbw (w:=w.alloc o) (k w.heap.size) hc (fun p hp=>by simp at hp) (fun q hq=>by simp at hq)).1
  |program k ih=>intro o f x h hx;exact ih P h hx
  |mark m k ih=>intro o f x h hx;exact ih h hx
  |_=>intro o f x h;simp[ZnD]at h
def newOk (P :Program) (n:Nat) (c:Code) (i:Nat) (L:List (Nat×Value)) (rest:Nat→Value) (r:Nat):Option (Obj×Value×Option Tmp):=
  match Zcc n c i L rest with
  | true=>(match ZnD P (execOp (ZaD L rest) (Za5 c i))with
    | some (o,f)=>(match f r with
      |some (.value v)=>some (o,v,(Za5 c i).dst)
      |_=>none)
    |none=>none)
  |false=>none
theorem newS {i :Nat} (T:TypeId) (cs:List Value) (d:Option Tmp) (v:Nat→Value) (h:∀rest r,newOk P n c i L rest r=some (.cells cs.toArray T (0,0),v r,d)):Step P n L H c i d v (fun b=>blk b T cs::H):=by
  have key:∀rest r,Zcc n c i L rest=true∧(Za5 c i).dst=d∧∃f,ZnD P (execOp (ZaD L rest) (Za5 c i))=some (.cells cs.toArray T (0,0),f)∧f r=some (.value (v r)):=by
    intro rest r;have h0:=h rest r;unfold newOk at h0;cases hg:Zcc n c i L rest with
    |false=>rw[hg]at h0;cases h0
    | true=>
      rw[hg]at h0;simp only at h0;cases hr:ZnD P (execOp (ZaD L rest) (Za5 c i))with
      |none=>rw[hr]at h0;cases h0
      | some z=>
        obtain⟨o,f⟩:=z;rw[hr]at h0;simp only at h0;cases hf:f r with
        |none=>rw[hf]at h0;cases h0
        | some x=>
          rw[hf]at h0;cases x with
          | value u=>
            simp only[Option.some.injEq,Prod.mk.injEq]at h0;obtain⟨rfl,rfl,rfl⟩:=h0;exact⟨rfl,rfl,f,rfl,hf⟩
          |_=>cases h0
  refine valueS d v _ (fun rest=>(key rest 0).1) (key (fun _=>undef) 0).2.1 ?_;intro rest w _ hs;obtain⟨_,_,f,h1,h2⟩:=key rest w.heap.size;refine⟨w.heap.size,w.alloc (.cells cs.toArray T),ZjD _ h1 h2,?_⟩;exact Sat.fresh hs (Upd.alloc _ _ _) (G':=fun b=>b=w.heap.size) ⟨Blk.new w T cs,fun _=>Iff.rfl⟩ (fun b hb=>by omega)
def Zce {α :Type} (P:Program):Sem α→Option (α×List (Addr×Value))
  | .pure a=>some (a,[])
  | .program k=>Zce P (k P)
  | .mark _ k=>Zce P k
  | .store _ a v k=>match v.oneCell' with
    | true=>(match Zce P k with
      |some (x,ws)=>some (x,(a,v)::ws)
      |none=>none)
    |false=>none
  |_=>none
def ZfJ (w:World)(ws:List (Addr×Value)):World:=ws.foldl (fun w q=>w.setCell q.1 q.2) w
theorem Zee {w :World} {a b:Addr} {v:Value} (h:(w.cell? b).isSome=true):((w.setCell a v).cell? b).isSome=true:=by
  unfold World.cell? World.setCell at*;simp only[Array.getElem?_modify]at*;by_cases hb:a.block=b.block
  · rw [if_pos hb]
    cases ho:w.heap[b.block]? with
    |none=>rw[ho]at h;cases h
    | some o=>
      rw[ho]at h;cases o with
      | cells c T f=>
        simp only[Option.map_some]at h ⊢;by_cases hs:b.spot.isSome=true
        · rw[if_pos hs]at h;cases h
        · rw[if_neg hs]at h ⊢
          split
          · exact h
          · simpa using h
      |_=>cases h
  · rw[if_neg hb];exact h
theorem Zfu {w:World}{a b:Addr}{v:Value}:(w.setCell a v).frozen? b=w.frozen? b:=by
 unfold World.frozen? World.setCell;simp only[Array.getElem?_modify];by_cases hb:a.block=b.block
 ·rw[if_pos hb]
  cases w.heap[b.block]? with
  |none=>rfl
  |some o=>cases o<;>rfl
 ·rw[if_neg hb]
theorem Zdz {α :Type} {P:Program}:∀(s:Sem α) {x:α} {ws:List (Addr×Value)} {w:World},Zce P s=some (x,ws)→(∀q∈ws,(w.cell? q.1).isSome=true∧w.frozen? q.1=false)→s.run P w= .ok x (ZfJ w ws):=by
  intro s;induction s with
  | pure a=>
    intro x ws w h _;simp only[Zce,Option.some.injEq,Prod.mk.injEq]at h;obtain⟨rfl,rfl⟩:=h;rfl
  |program k ih=>intro x ws w h hw;exact ih P h hw
  |mark m k ih=>intro x ws w h hw;exact ih h hw
  | store m a v k ih=>
    intro x ws w h hw;simp only[Zce]at h;cases hv:v.oneCell' with
    |false=>rw[hv]at h;cases h
    | true=>
      rw[hv]at h;simp only at h;cases hk:Zce P k with
      |none=>rw[hk]at h;cases h
      | some z=>
        obtain⟨y,ws'⟩:=z;rw[hk]at h;simp only[Option.some.injEq,Prod.mk.injEq]at h;obtain⟨rfl,rfl⟩:=h;obtain⟨h1,h2⟩:=hw (a,v) (by simp);have hrest:=ih (w:=w.setCell a v) hk (fun q hq=>by
          obtain⟨g1,g2⟩:=hw q (by simp[hq]);exact⟨Zee g1,by rw[Zfu];exact g2⟩)
        have e:ZfJ w ((a,v)::ws')=ZfJ (w.setCell a v) ws':=rfl;rw[e,←hrest];simp only at h1 h2;cases hc:w.cell? a with
        |none=>rw[hc]at h1;cases h1
        | some u=>
          cases v with
          |agg _=>simp[Value.oneCell']at hv
          |tuple _=>simp[Value.oneCell']at hv
          |_=>simp[Sem.run,hc,h2]
  |_=>intro x ws w h;simp[Zce]at h
def storesOk (P :Program) (n:Nat) (c:Code) (i:Nat) (L:List (Nat×Value)) (rest:Nat→Value):Option (List (Addr×Value)):=
  match Zcc n c i L rest with
  | true=>(match(Za5 c i).dst with
    | none=>(match Zce P (execOp (ZaD L rest) (Za5 c i))with
      |some (.skip,ws)=>some ws
      |_=>none)
    |some _=>none)
  |false=>none
theorem Za8 {i :Nat} {rest:Nat→Value} {ws:List (Addr×Value)} (h:storesOk P n c i L rest=some ws):Zcc n c i L rest=true∧(Za5 c i).dst=none∧Zce P (execOp (ZaD L rest) (Za5 c i))=some (.skip,ws):=by
  unfold storesOk at h;cases hg:Zcc n c i L rest with
  |false=>rw[hg]at h;cases h
  | true=>
    rw[hg]at h;simp only at h;cases hd:(Za5 c i).dst with
    |some _=>rw[hd]at h;cases h
    | none=>
      rw[hd]at h;simp only at h;cases hr:Zce P (execOp (ZaD L rest) (Za5 c i))with
      |none=>rw[hr]at h;cases h
      | some z=>
        obtain⟨x,ws'⟩:=z;rw[hr]at h;cases x with
        |skip=>simp only[Option.some.injEq]at h;subst h;exact⟨rfl,rfl,rfl⟩
        |_=>cases h
def setsL (cs:List Value)(ws:List (Nat×Value)):List Value:=ws.foldl (fun cs q=>cs.set q.1 q.2) cs
theorem Blk.setsAll {b:Nat}{T:TypeId}:∀(ws:List (Nat×Value)) {w:World} {cs:List Value},Blk w b T cs→Blk (ZfJ w (ws.map fun q=>(⟨b,q.1,none⟩,q.2))) b T (setsL cs ws)
 | [],_,_,h=>h
 |(j,v)::ws,w,cs,h=>Blk.setsAll ws (h.set j v)
theorem ZfF {b:Nat}{F:Nat→Prop}(hF:F b):∀(ws:List (Nat×Value)) (w:World),Upd F w (ZfJ w (ws.map fun q=>(⟨b,q.1,none⟩,q.2)))
 | [],w=>Upd.refl _ _
 |(j,v)::ws,w=>(Upd.setCell (F:=F) w ⟨b,j,none⟩ v hF).trans (ZfF hF ws _)
theorem ZdT {i:Nat}{b:Nat}{T:TypeId}{cs:List Value}{H:List SP}(ws:List (Nat×Value))(cs':List Value)(h:∀rest,storesOk P n c i L rest=some (ws.map fun q=>(⟨b,q.1,none⟩,q.2)))(hb:(ws.all fun q=>Nat.ble (q.1+1) cs.length)=true)(hcs:setsL cs ws=cs'):
  Step (ι:=Unit) P n L (blk b T cs::H) c i none (fun _=>undef) (fun _=>blk b T cs'::H):=by
 refine skipS _ (fun rest=>(Za8 (h rest)).1) (Za8 (h fun _=>undef)).2.1 ?_;intro rest w _ hs;have hs0:=hs;obtain⟨G,⟨g1,g2⟩,_⟩:=hs0;refine⟨_,Zdz _ (Za8 (h rest)).2.2 ?_,?_⟩
 ·intro q hq
  obtain⟨z,hz,rfl⟩:=List.mem_map.1 hq;have:=Nat.le_of_ble_eq_true (List.all_eq_true.1 hb z hz);simp only;rw[g1.cell,g1.frozen];simp[show z.1<cs.length by omega]
 ·refine Sat.change hs fun G' hG'=>⟨ZfF ((hG'.2 b).2 rfl) ws w,G',⟨?_,hG'.2⟩,fun x hx=> .inl hx⟩
  rw[←hcs];exact Blk.setsAll ws hG'.1
def mid {ι:Type}(n:Nat)(Lx:ι→List (Nat×Value))(Hx:ι→List SP)(a:Act)(w:World):Prop:=∃x,∃rest,OkL n (Lx x) rest∧a=ZbM n (Lx x) rest∧Sat w (Hx x)
theorem Zcm {ι:Type}{Lx:ι→List (Nat×Value)}{Hx:ι→List SP}(x:ι)(hL:L=Lx x)(hH:H=Hx x):PT n L H (mid n Lx Hx):=fun rest w ho hs=>⟨x,rest,hL▸ho,by rw[hL],hH▸hs⟩
theorem Zk4 {ι:Type}{K:Act→World→Prop}(Lx:ι→List (Nat×Value))(Hx:ι→List SP)(h1:CT P n L H c (Exit.then (mid n Lx Hx) Q))(h2:∀x,PT n (Lx x) (Hx x) K):CT P n L H c (Exit.then K Q):=by
  intro rest w ho hs;refine wp_mono (h1 rest w ho hs) ?_;intro e a w hq;cases e with
  | normal=>
    obtain⟨x,rest',ho',rfl,hs'⟩:=hq;exact h2 x rest' w ho' hs'
  |exit id=>exact hq
  |goto l=>exact hq
  |ret=>exact hq
  |panic ch=>exact hq
  |outgrown=>exact hq
theorem segR {ι : Type} {i z:Nat} (m:Nat) (Lx:ι→List (Nat×Value)) (Hx:ι→List SP) (h1:RT P n L H c i m (Exit.then (mid n Lx Hx) Q)) (h2:∀x,RT P n (Lx x) (Hx x) c (i+m) z Q):RT P n L H c i (m+z) Q:=by
  intro rest w ho hs;rw[List.take_add,List.drop_drop];refine wpList_app _ _ ?_
  have hm : ∀ (l:List Oper) (K K':Act→World→Prop),(∀a w,K a w→K' a w)→∀a w,wpList P (Zas c).toArray (Exit.then K Q) l a w→wpList P (Zas c).toArray (Exit.then K' Q) l a w:=by
    intro l K K' hK;induction l with
    |nil=>intro a w h;exact hK _ _ h
    | cons o l ih=>
      intro a w h;unfold wpList at h ⊢;split
      · rename_i hw
        rw[if_pos hw]at h;rcases h with h|h
        · refine .inl (Oper.wp_mono (K:=wpList P (Zas c).toArray (Exit.then K Q) l) (fun a w hh=>ih a w hh) ?_)
          have h3:=Oper.wp_then h;unfold Oper.wp at h3 ⊢;generalize(execOp a.eval o).run P w=r at*;cases r with
          | ok x w'=>
            cases x<;>simp only[Oper.upon]at h3 ⊢ <;>
              first
                |exact h3
                |exact Calls.mono h3 (fun e w'' he=>by cases e<;>exact he)
          |halt x w'=>cases x<;>simp only[Oper.upon]at h3 ⊢ <;>exact h3
        · exact .inr h
      · rename_i hw
        rw[if_neg hw]at h;exact ih _ _ h
  refine hm _ _ _ ?_ _ _ (h1 rest w ho hs);rintro a w ⟨x,rest',ho',rfl,hs'⟩;exact h2 x rest' w ho' hs'
theorem Zao {l:Nat}{K:Act→World→Prop}(h:PT n L H (Q (.exit l))):PT n L H (Exit.then K Q (.exit l)):=h
theorem Zab {K:Act→World→Prop}(h:PT n L H (Q .ret)):PT n L H (Exit.then K Q .ret):=h
theorem ZcR {l:Nat}{K:Act→World→Prop}(h:PT n L H (Q .ret)):PT n L H (Exit.jump l K Q .ret):=h
theorem Zae {l:Nat}(h:PT n L H (Q .ret)):PT n L H (Exit.inBlock l Q .ret):=h
theorem Zax {l:Nat}(h:PT n L H (Q .normal)):PT n L H (Exit.inBlock l Q (.exit l)):=fun rest w ho hs=>by
 show(if l=l then _ else _);rw[if_pos rfl];exact h rest w ho hs
theorem Zog {l l':Nat}(hne:l'≠l)(h:PT n L H (Q (.exit l'))):PT n L H (Exit.inBlock l Q (.exit l')):=fun rest w ho hs=>by
 show(if l'=l then _ else _);rw[if_neg hne];exact h rest w ho hs
def DT (P:Program)(n:Nat)(L:List (Nat×Value))(H:List SP)(c:Code)(S:World→Prop)(N:List Nat)(fuel:Nat)(listed:List Bool)(Q:Exit→Act→World→Prop):Prop:=
 PT n L H fun a w=>Zcs P .any (Zas c).toArray Q S N fuel listed.toArray a w
theorem ZqQ (S:World→Prop)(N:List Nat)(m:Nat)(hk:ZaG c= .region true)(hm:P.follows .mixedOrders=true)(hl:(Zas c).length=m)(hS:∀w,Sat w H→S w)(h:DT P n L H c S N m (List.replicate m false) Q):CT P n L H c Q:=by
 subst hl;cases c<;>simp[ZaG]at hk;rename_i id ops draw;subst hk;intro rest w ho hs;have hsd:Sat w.drew H:=hs.stay (Upd.drew _ _);have:=h rest w.drew ho hsd;simp only[Zas,Array.length_toList]at this;refine wp_region_N N S hm (hS _ hsd) (fun _=>?_);simpa using this
def Zch (P : Program) (n:Nat) (ops:List Oper) (N:List Nat):List Nat→List Bool→List (Nat×Value)→(Nat→Value)→List (Addr×Value)→Option (List (Nat×Value)×List (Addr×Addr)×List (Addr×Value)×List Bool)
  | [],listed,L,_,qs=>some (L,[],qs,listed)
  | i ::is,listed,L,rest,qs=>match ops[i]? with
    |none=>none
    | some o=>match ZhK n o.dst&&ZdS .any ops.toArray N listed.toArray i with
      |false=>none
      | true=>match Zf9 ops L rest o with
        |false=>Zch P n ops N is (listed.set i true) (ZdJ o.dst undef L) rest qs
        | true=>match Zbp P (execOp (ZaD L rest) o) qs with
          | some (.value v,cs,r)=>(match Zch P n ops N is (listed.set i true) (ZdJ o.dst v L) rest r with
            |some (L',cs',r',listed')=>some (L',cs++cs',r',listed')
            |none=>none)
          |_=>none
theorem ZdQ {S : World→Prop} {N:List Nat} {rest:Nat→Value} {w:World} (hQ:∀ch d (a:Act) v w,Q (.panic ch) (a.put d v) w→Q (.panic ch) a w) (hS:S w):∀(is:List Nat) {listed listed':List Bool} {fuel:Nat} {L L':List (Nat×Value)} {qs r:List (Addr×Value)} {cs:List (Addr×Addr)},
    Zch P n (Zas c) N is listed L rest qs=some (L',cs,r,listed')→OkL n L rest→(∀p∈cs,p.1=p.2)→(∀w,S w→∀q∈qs,w.cell? q.1=some q.2)→
    (OkL n L' rest→Zcs P .any (Zas c).toArray Q S N fuel listed'.toArray (ZbM n L' rest) w)→Zcs P .any (Zas c).toArray Q S N (fuel+is.length) listed.toArray (ZbM n L rest) w
  | [],listed,listed',fuel,L,L',qs,r,cs,h,ho,_,_,hq=>by
    simp only[Zch,Option.some.injEq,Prod.mk.injEq]at h;obtain⟨rfl,_,_,rfl⟩:=h;exact hq ho
  | i ::is,listed,listed',fuel,L,L',qs,r,cs,h,ho,hc,ha,hq=>by
    simp only[Zch]at h;cases hi:(Zas c)[i]? with
    |none=>rw[hi]at h;cases h
    | some o=>
      rw[hi]at h;simp only at h;cases hd:(ZhK n o.dst&&ZdS .any (Zas c).toArray N listed.toArray i)with
      |false=>rw[hd]at h;cases h
      | true=>
        rw[hd]at h;simp only at h;obtain⟨hd1,hd2⟩:=Bool.and_eq_true_iff.1 hd;have hset:(listed.toArray.setIfInBounds i true)=(listed.set i true).toArray:=by simp
        rw[List.length_cons,←Nat.add_assoc];cases hw:Zf9 (Zas c) L rest o with
        | false=>
          rw[hw]at h;simp only at h;refine wpAnyN_take (v:=undef) i (by simpa using hi) hd2 (fun ch a w hh=>hQ ch _ a _ w hh) hS (.inr ⟨by rw[Zb1 ho];exact hw,rfl⟩) ?_;rw[hset,Zbv];exact ZdQ hQ hS is h (Zb5 ho hd1) hc ha hq
        | true=>
          rw[hw]at h;simp only at h;cases hr:Zbp P (execOp (ZaD L rest) o) qs with
          |none=>rw[hr]at h;cases h
          | some z=>
            obtain⟨x,cs1,r1⟩:=z;rw[hr]at h;cases x with
            | value v=>
              simp only at h;cases hz:Zch P n (Zas c) N is (listed.set i true) (ZdJ o.dst v L) rest r1 with
              |none=>rw[hz]at h;cases h
              | some z=>
                obtain⟨L2,c2,r2,l2⟩:=z;rw[hz]at h;simp only[Option.some.injEq,Prod.mk.injEq]at h;obtain⟨rfl,rfl,rfl,rfl⟩:=h;have hsub:=(Zbw (w:=w) _ hr (fun p hp=>hc p (by simp[hp])) (ha w hS)).2;refine wpAnyN_take (v:=v) i (by simpa using hi) hd2 (fun ch a w hh=>hQ ch _ a _ w hh) hS (.inl ⟨by rw[Zb1 ho];exact hw,fun w' hS'=>?_⟩) ?_
                · rw[Zby ho]
                  exact(Zbw (w:=w') _ hr (fun p hp=>hc p (by simp[hp])) (ha w' hS')).1
                · rw[hset,Zbv]
                  exact ZdQ hQ hS is hz (Zb5 ho hd1) (fun p hp=>hc p (by simp[hp])) (fun w' hS' q hq=>ha w' hS' q (hsub q hq)) hq
            |_=>cases h
def takesK (P :Program) (n:Nat) (ops:List Oper) (N:List Nat) (is ks:List Nat) (listed:List Bool) (L:List (Nat×Value)) (rest:Nat→Value) (qs:List (Addr×Value)):Option (List (Nat×Value)×List (Addr×Addr)×List Bool):=
  match Zch P n ops N is listed L rest qs with
  | some (L',cs,_,l)=>(match Zd4 ks L' with
    |some L2=>some (L2,cs,l)
    |none=>none)
  |none=>none
theorem Zjq {S:World→Prop}{N:List Nat}{fuel:Nat}{listed:List Bool}(is ks:List Nat)(fuel':Nat)(listed':List Bool)(L':List (Nat×Value))(qs:List (Addr×Value))(hf:fuel=fuel'+is.length)
    (hQ:∀ch d (a:Act) v w,Q (.panic ch) (a.put d v) w→Q (.panic ch) a w) (hS:∀w,Sat w H→S w) (has:∀w,S w→∀q∈qs,w.cell? q.1=some q.2)
    (h:∀rest,takesK P n (Zas c) N is ks listed L rest qs=some (L',qs.map fun q=>(q.1,q.1),listed')) (hn:DT P n L' H c S N fuel' listed' Q):DT P n L H c S N fuel listed Q:=by
  intro rest w ho hs;have h1:=h rest;unfold takesK at h1;cases hr:Zch P n (Zas c) N is listed L rest qs with
  |none=>rw[hr]at h1;cases h1
  | some z=>
    obtain⟨L2,cs,r,l2⟩:=z;rw[hr]at h1;simp only at h1;cases hk:Zd4 ks L2 with
    |none=>rw[hk]at h1;cases h1
    | some L3=>
      rw[hk]at h1;simp only[Option.some.injEq,Prod.mk.injEq]at h1;obtain⟨rfl,rfl,rfl⟩:=h1;rw[hf];exact ZdQ hQ (hS w hs) is hr ho (by intro p hp;obtain⟨q,_,rfl⟩:=List.mem_map.1 hp;rfl) has (fun ho2=>PT.keep ks hk hn rest w ho2 hs)
theorem Zrm {S:World→Prop}{N:List Nat}{fuel:Nat}{listed:List Bool}{d:Option Tmp}{v:Value}(i:Nat)(fuel':Nat)(listed':List Bool)(hf:fuel=fuel'+1)(hl:listed'=listed.set i true)(ht:ZdS .any (Zas c).toArray N listed.toArray i=true)
  (hQ:∀ch d (a:Act) v w,Q (.panic ch) (a.put d v) w→Q (.panic ch) a w) (hS:∀w,Sat w H→S w) (hy:Yld P n L S c i d v) (hn:DT P n (ZdJ d v L) H c S N fuel' listed' Q):DT P n L H c S N fuel listed Q:=by
 subst hf hl;obtain⟨hg,hd,h⟩:=hy;intro rest w ho hs;obtain⟨h1,h2,h3⟩:=Zfi (hg rest);have hio:(Zas c).toArray[i]? =some (Za5 c i):=by
  have:(Zas c)[i]? =some (Za5 c i):=by
   have e:=congrArg List.head? h1;rw[List.head?_drop,List.head?_cons]at e;exact e
  simpa using this
 refine wpAnyN_take (v:=v) i hio ht (fun ch a w hh=>hQ ch _ a _ w hh) (hS w hs) (.inl ⟨by rw[Zb1 ho];exact h3,fun w' hS'=>?_⟩) ?_
 ·rw[Zby ho];exact h rest w' ho hS'
 ·have hset:(listed.toArray.setIfInBounds i true)=(listed.set i true).toArray:=by simp
  rw[hset,Zbv,hd];exact hn rest w (Zb5 ho (hd▸h2)) hs
theorem Zqk {ι:Type}{S:World→Prop}{N:List Nat}{fuel:Nat}{listed:List Bool}{d:Option Tmp}{rv:ι→Value}{Hx:ι→List SP}(i:Nat)(fuel':Nat)(listed':List Bool)(hf:fuel=fuel'+1)(hl:listed'=listed.set i true)(hr:(Region.ready .any (Zas c).toArray listed.toArray==[i]&& [i] !=[])=true)
  (hst:Step P n L H c i d rv Hx) (hS:∀x w,Sat w (Hx x)→N.contains i=false→S w) (hn:∀x,DT P n (ZdJ d (rv x) L) (Hx x) c S N fuel' listed' Q):DT P n L H c S N fuel listed Q:=by
 subst hf hl;obtain⟨hg,hd,h⟩:=hst;intro rest w ho hs;obtain⟨h1,h2,h3⟩:=Zfi (hg rest);have hio:(Zas c).toArray[i]? =some (Za5 c i):=by
  have:(Zas c)[i]? =some (Za5 c i):=by
   have e:=congrArg List.head? h1;rw[List.head?_drop,List.head?_cons]at e;exact e
  simpa using this
 refine wpAnyN_all [i] hr (AllN.cons hio (fun K hK=>?_) AllN.nil);rw[Zb1 ho,h3,if_pos rfl];refine h rest w ho hs K Q (fun x w' hs'=>?_);refine hK.out _ _ (fun hni=>hS x w' hs' hni) ?_;have:=hn x rest w' (Zb5 ho (hd▸h2)) hs';simpa using this
def ChD (P:Program)(n:Nat)(L:List (Nat×Value))(H:List SP)(c:Code)(S:World→Prop)(N:List Nat)(fuel:Nat)(listed:List Bool)(i:Nat)(Q:Exit→Act→World→Prop):Prop:=
 ∃(ι:Type) (d:Option Tmp) (rv:ι→Value) (Hx:ι→List SP),Step P n L H c i d rv Hx∧(∀x w,Sat w (Hx x)→N.contains i=false→S w)∧∀x,DT P n (ZdJ d (rv x) L) (Hx x) c S N fuel (listed.set i true) Q
theorem chR {ι:Type}{S:World→Prop}{N:List Nat}{fuel:Nat}{listed:List Bool}{d:Option Tmp}{rv:ι→Value}{Hx:ι→List SP}(i:Nat)(listed':List Bool)(hl:listed'=listed.set i true)
  (hst:Step P n L H c i d rv Hx) (hS:∀x w,Sat w (Hx x)→N.contains i=false→S w) (hn:∀x,DT P n (ZdJ d (rv x) L) (Hx x) c S N fuel listed' Q):ChD P n L H c S N fuel listed i Q:=by
 subst hl;exact⟨ι,d,rv,Hx,hst,hS,hn⟩
theorem ChD.cons {S:World→Prop}{N:List Nat}{fuel:Nat}{listed:List Bool}{i:Nat}{rest:Nat→Value}{w:World}{rs:List Nat}(h1:ChD P n L H c S N fuel listed i Q)(ho:OkL n L rest)(hs:Sat w H)
  (ht:AllN P .any (Zas c).toArray Q S N fuel listed.toArray (ZbM n L rest) w rs):AllN P .any (Zas c).toArray Q S N fuel listed.toArray (ZbM n L rest) w (i::rs):=by
 obtain⟨ι,d,rv,Hx,⟨hg,hd,h⟩,hS,hn⟩:=h1;obtain⟨h1,h2,h3⟩:=Zfi (hg rest);have hio:(Zas c).toArray[i]? =some (Za5 c i):=by
  have:(Zas c)[i]? =some (Za5 c i):=by
   have e:=congrArg List.head? h1;rw[List.head?_drop,List.head?_cons]at e;exact e
  simpa using this
 refine AllN.cons hio (fun K hK=>?_) ht;rw[Zb1 ho,h3,if_pos rfl];refine h rest w ho hs K Q (fun x w' hs'=>?_);refine hK.out _ _ (fun hni=>hS x w' hs' hni) ?_;have:=hn x rest w' (Zb5 ho (hd▸h2)) hs';simpa using this
theorem twoR {S:World→Prop}{N:List Nat}{fuel:Nat}{listed:List Bool}(i j:Nat)(fuel':Nat)(hf:fuel=fuel'+1)(hr:(Region.ready .any (Zas c).toArray listed.toArray==[i,j]&& [i,j] !=[])=true)
  (h1:ChD P n L H c S N fuel' listed i Q) (h2:ChD P n L H c S N fuel' listed j Q):DT P n L H c S N fuel listed Q:=by
 subst hf;intro rest w ho hs;exact wpAnyN_all [i,j] hr (ChD.cons h1 ho hs (ChD.cons h2 ho hs AllN.nil))
theorem DT.pick {S:World→Prop}{N:List Nat}{fuel:Nat}{listed:List Bool}(i:Nat){X:SP}(hi:H[i]? =some X)(h:DT P n L (X::H.eraseIdx i) c S N fuel listed Q):DT P n L H c S N fuel listed Q:=PT.pick i hi h
theorem RT.pick {i0 m:Nat}(i:Nat){X:SP}(hi:H[i]? =some X)(h:RT P n L (X::H.eraseIdx i) c i0 m Q):RT P n L H c i0 m Q:=PT.pick i hi h
theorem Zr6 {S:World→Prop}{N:List Nat}{fuel:Nat}{listed:List Bool}(hr:(Region.ready .any (Zas c).toArray listed.toArray==[])=true)(h:PT n L H (Q .normal)):DT P n L H c S N fuel listed Q:=
 fun rest w ho hs=>Zh4 hr (h rest w ho hs)
end
end Go.Proofs.YtfhkgohokbkgiaaGreatDoor.G
namespace Go.Proofs.YtfhkgohokbkgiaaGreatDoor.G
section
variable {P :Program}{n:Nat}{L:List (Nat×Value)}{H:List SP}{Q:Exit→Act→World→Prop}{c:Code}
abbrev vi (x:Int):Value:= .int .i64 x
abbrev vp (b:Nat):Value:= .pointer (some ⟨b,0,none⟩)
abbrev vq (b o:Nat):Value:= .pointer (some ⟨b,o,none⟩)
theorem ba (i:Nat){b:Nat}{T:TypeId}{cs:List Value}{j:Nat}{v:Value}(hi:H[i]? =some (blk b T cs):=by rfl)(hj:cs[j]? =some v:=by rfl):∀w,Sat w H→w.cell? ⟨b,j,none⟩=some v:=ZaS i hi hj
theorem Xq (h:CT P n L H (sub c 0) (Exit.then (fun a w=>(sub c 1).wp P Q a w) Q))(hk:ZaG c= .seq:=by kernel_rfl):CT P n L H c Q:=seqR hk h
theorem Xk (h:PT n L H (Q .normal))(hk:ZaG c= .skip:=by kernel_rfl):CT P n L H c Q:=ZsF hk h
theorem Xv (h:PT n L H (Q .ret))(hk:ZaG c= .ret:=by kernel_rfl):CT P n L H c Q:=retR hk h
theorem Xx (l:Nat)(h:PT n L H (Q (.exit l)))(hk:ZaG c= .exit:=by kernel_rfl)(hl:Zmt c=l:=by kernel_rfl):CT P n L H c Q:=ZsZ l hk hl h
theorem Xb (l:Nat)(h:CT P n L H (sub c 0) (Exit.inBlock l Q))(hk:ZaG c= .block:=by kernel_rfl)(hl:Zmt c=l:=by kernel_rfl):CT P n L H c Q:=Zsm l hk hl h
theorem Xc (b:Bool)(h1:b=true→CT P n L H (sub c 0) Q)(h2:b=false→CT P n L H (sub c 1) Q)(hk:ZaG c= .cond:=by kernel_rfl)(hb:∀rest,ZaD L rest (Zjp c)= .bool b:=by intro _;kernel_rfl):CT P n L H c Q:=ZqR hk hb h1 h2
theorem Xg (m:Nat)(h:RT P n L H c 0 m Q)(hk:ZaG c= .region false:=by kernel_rfl)(hm:(Zas c).length=m:=by kernel_rfl):CT P n L H c Q:=Zqe m hk hm h
theorem Xr {i z m:Nat}(L':List (Nat×Value))(hn:RT P n L' H c (i+m) z Q)(z' m':Nat)(h:∀rest,Zl2 P n (Zas c) i m' (L'.map Prod.fst) L rest []=some (L',[]):=by intro _;kernel_rfl)(hz:z=z':=by rfl)(hm:m=m':=by rfl):RT P n L H c i (m'+z') Q:=by subst hz hm;exact Zss m _ L' h hn
theorem Xe {i:Nat}(L':List (Nat×Value))(hn:PT n L' H (Q .normal))(m:Nat)(h:∀rest,Zl2 P n (Zas c) i m (L'.map Prod.fst) L rest []=some (L',[]):=by intro _;kernel_rfl):RT P n L H c i m Q:=Zss (z:=0) m _ L' h (endR hn)
theorem Xl {i z m:Nat}(L':List (Nat×Value))(qs:List (Addr×Value))(has:∀w,Sat w H→∀q∈qs,w.cell? q.1=some q.2)(hn:RT P n L' H c (i+m) z Q)(z' m':Nat)(h:∀rest,Zl2 P n (Zas c) i m' (L'.map Prod.fst) L rest qs=some (L',qs.map fun q=>(q.1,q.1)):=by intro _;kernel_rfl)(hz:z=z':=by rfl)(hm:m=m':=by rfl):RT P n L H c i (m'+z') Q:=by subst hz hm;exact Zrt m _ L' qs has h hn
theorem Xm {i:Nat}(L':List (Nat×Value))(qs:List (Addr×Value))(has:∀w,Sat w H→∀q∈qs,w.cell? q.1=some q.2)(hn:PT n L' H (Q .normal))(m:Nat)(h:∀rest,Zl2 P n (Zas c) i m (L'.map Prod.fst) L rest qs=some (L',qs.map fun q=>(q.1,q.1)):=by intro _;kernel_rfl):RT P n L H c i m Q:=Zrt (z:=0) m _ L' qs has h (endR hn)
theorem Xs {ι:Type}{i z:Nat}{d:Option Tmp}{rv:ι→Value}{Hx:ι→List SP}(hst:Step P n L H c i d rv Hx)(hn:∀x,RT P n (ZdJ d (rv x) L) (Hx x) c (i+1) z Q)(z':Nat)(hz:z=z':=by rfl):RT P n L H c i (z'+1) Q:=by subst hz;exact ZnP hst hn
theorem Xp {Φ:Act→World→Prop}(L':List (Nat×Value))(h:PT n L' H Φ)(hk:Zd4 (L'.map Prod.fst) L=some L':=by kernel_rfl):PT n L H Φ:=PT.keep _ hk h
theorem Xa {ι:Type}{i:Nat}{f:FuncId}{vs:List Value}{Hx:ι→List SP}(d:Option Tmp)(rv:ι→Value)(hc:∀w,Sat w H→Calls P f vs.toArray w (Ret rv Hx))(he:∀rest,Zgx P n c i L rest=some (f,vs,d):=by intro _;kernel_rfl):Step P n L H c i d rv Hx:=ZoN f vs d rv Hx he hc
theorem Xa1 {ι:Type}{i:Nat}{f:FuncId}{vs:List Value}(d:Option Tmp)(rv:ι→Value)(Hx:ι→List SP)(hc:∀w,Sat w H→Calls P f vs.toArray w (Ret rv Hx))(he:∀rest,Zgx P n c i L rest=some (f,vs,d):=by intro _;kernel_rfl):Step P n L H c i d rv Hx:=ZoN f vs d rv Hx he hc
theorem Xn {i:Nat}(T:TypeId)(cs:List Value)(d:Option Tmp)(v:Nat→Value)(h:∀rest r,newOk P n c i L rest r=some (.cells cs.toArray T (0,0),v r,d):=by intro _ _;kernel_rfl):Step P n L H c i d v (fun b=>blk b T cs::H):=newS T cs d v h
theorem Xz {i:Nat}{b:Nat}{T:TypeId}{cs:List Value}{H:List SP}(ws:List (Nat×Value))(h:∀rest,storesOk P n c i L rest=some (ws.map fun q=>(⟨b,q.1,none⟩,q.2)):=by intro _;kernel_rfl)(hb:(ws.all fun q=>Nat.ble (q.1+1) cs.length)=true:=by kernel_rfl):Step (ι:=Unit) P n L (blk b T cs::H) c i none (fun _=>undef) (fun _=>blk b T (setsL cs ws)::H):=ZdT ws _ h hb rfl
theorem Xi {S:World→Prop}{i:Nat}(t:TypeId)(x ix:Operand)(b o len cap J sz:Nat)(E:TypeId)(j:Int)(d:Nat)(hu:P.underlying t=some (.slice E))(hJ:J<len:=by first|omega|(simp;done)|(simp;omega)|(simp at*;omega))(hg:∀rest,Zcc n c i L rest=true:=by intro _;kernel_rfl)(hd:(Za5 c i).dst=some d:=by kernel_rfl)(hop:(Za5 c i).op= .indexAddr t x ix:=by kernel_rfl)
  (hx:∀rest,ZaD L rest x= .slice (some ⟨b,o,none⟩) len cap:=by intro _;kernel_rfl) (hix:∀rest,ZaD L rest ix= .int .i64 j:=by intro _;kernel_rfl) (hsz:(P.info? E).map (·.size)=some sz:=by kernel_rfl) (hj:j=(J:Int):=by first|rfl|assumption|simp):Yld P n L S c i (some d) (.pointer (some ⟨b,o+J*sz,none⟩)):=idxY t x ix b o len cap J sz E j .i64 (some d) hg hd hop hx hix hu hsz hj hJ
theorem Xt {S:World→Prop}{N:List Nat}{fuel:Nat}{listed:List Bool}(is:List Nat)(L':List (Nat×Value))(qs:List (Addr×Value))(has:∀w,S w→∀q∈qs,w.cell? q.1=some q.2)(hn:DT P n L' H c S N (fuel-is.length) (is.foldl (fun l i=>l.set i true) listed) Q)
  (hS:∀w,Sat w H→S w:=by intro _ h;repeat first|exact h|replace h:=Sat.tail h) (hQ:∀ch d (a:Act) v w,Q (.panic ch) (a.put d v) w→Q (.panic ch) a w:=by intro _ d _ _ _ h;cases d<;>exact h) (hf:fuel=(fuel-is.length)+is.length:=by kernel_rfl)
  (h:∀rest,takesK P n (Zas c) N is (L'.map Prod.fst) listed L rest qs=some (L',qs.map fun q=>(q.1,q.1),is.foldl (fun l i=>l.set i true) listed):=by intro _;kernel_rfl):DT P n L H c S N fuel listed Q:=Zjq is _ _ _ L' qs hf hQ hS has h hn
theorem Xu {S:World→Prop}{N:List Nat}{fuel:Nat}{listed:List Bool}{d:Option Tmp}{v:Value}(i:Nat)(hy:Yld P n L S c i d v)(hn:DT P n (ZdJ d v L) H c S N (fuel-1) (listed.set i true) Q)
  (hS:∀w,Sat w H→S w:=by intro _ h;repeat first|exact h|replace h:=Sat.tail h) (hQ:∀ch d (a:Act) v w,Q (.panic ch) (a.put d v) w→Q (.panic ch) a w:=by intro _ d _ _ _ h;cases d<;>exact h) (hf:fuel=(fuel-1)+1:=by kernel_rfl) (ht:ZdS .any (Zas c).toArray N listed.toArray i=true:=by kernel_rfl):DT P n L H c S N fuel listed Q:=Zrm i _ _ hf rfl ht hQ hS hy hn
theorem Xo {ι:Type}{S:World→Prop}{N:List Nat}{fuel:Nat}{listed:List Bool}{d:Option Tmp}{rv:ι→Value}{Hx:ι→List SP}(i:Nat)(hst:Step P n L H c i d rv Hx)(hn:∀x,DT P n (ZdJ d (rv x) L) (Hx x) c S N (fuel-1) (listed.set i true) Q)
  (hS:∀x w,Sat w (Hx x)→N.contains i=false→S w:=by intro _ _ h hn;first|exact absurd hn (by decide)|repeat first|exact h|replace h:=Sat.tail h) (hf:fuel=(fuel-1)+1:=by kernel_rfl) (hr:(Region.ready .any (Zas c).toArray listed.toArray==[i]&& [i] !=[])=true:=by kernel_rfl):DT P n L H c S N fuel listed Q:=Zqk i _ _ hf rfl hr hst hS hn
theorem Xh {ι:Type}{S:World→Prop}{N:List Nat}{fuel:Nat}{listed:List Bool}{d:Option Tmp}{rv:ι→Value}{Hx:ι→List SP}(i:Nat)(hst:Step P n L H c i d rv Hx)(hn:∀x,DT P n (ZdJ d (rv x) L) (Hx x) c S N fuel (listed.set i true) Q)
  (hS:∀x w,Sat w (Hx x)→N.contains i=false→S w:=by intro _ _ h hn;first|exact absurd hn (by decide)|repeat first|exact h|replace h:=Sat.tail h):ChD P n L H c S N fuel listed i Q:=chR i _ rfl hst hS hn
theorem Xw {S:World→Prop}{N:List Nat}{fuel:Nat}{listed:List Bool}(i j:Nat)(h1:ChD P n L H c S N (fuel-1) listed i Q)(h2:ChD P n L H c S N (fuel-1) listed j Q)(hf:fuel=(fuel-1)+1:=by kernel_rfl)(hr:(Region.ready .any (Zas c).toArray listed.toArray==[i,j]&& [i,j] !=[])=true:=by kernel_rfl):DT P n L H c S N fuel listed Q:=twoR i j _ hf hr h1 h2
theorem Xd {S:World→Prop}{N:List Nat}{fuel:Nat}{listed:List Bool}(h:PT n L H (Q .normal))(hr:(Region.ready .any (Zas c).toArray listed.toArray==[])=true:=by kernel_rfl):DT P n L H c S N fuel listed Q:=Zr6 hr h
theorem Xy (S:World→Prop)(N:List Nat)(m:Nat)(h:DT P n L H c S N m (List.replicate m false) Q)(hS:∀w,Sat w H→S w:=by intro _ h;repeat first|exact h|replace h:=Sat.tail h)(hk:ZaG c= .region true:=by kernel_rfl)(hm:P.follows .mixedOrders=true:=by kernel_rfl)(hl:(Zas c).length=m:=by kernel_rfl):CT P n L H c Q:=ZqQ S N m hk hm hl hS h
theorem Xj0 {ι:Type}{K:Act→World→Prop}(Lx:ι→List (Nat×Value))(h1:CT P n L H c (Exit.then (mid n Lx (fun _=>H)) Q))(h2:∀x,PT n (Lx x) H K):CT P n L H c (Exit.then K Q):=Zk4 Lx (fun _=>H) h1 h2
theorem Xl0 {ι:Type}(Lx:ι→List (Nat×Value))(R:Nat→ι→Prop)(k:Nat)(x:ι)(hk:ZaG c= .loop)(h0:R k x)(round:∀k x,R k x→CT P n (Lx x) H (sub c 0) (Exit.then (Zji n Lx (fun _=>H) R k) Q)):CT P n (Lx x) H c Q:=ZbV Lx (fun _=>H) R k x hk h0 round
theorem Xs0 {i k:Nat}(z m:Nat)(L':List (Nat×Value))(h1:RT P n L H c i m (Exit.then (mid n (fun _:Unit=>L') (fun _=>H)) Q))(h2:RT P n L' H c (i+m) z Q)(hk:k=m+z:=by rfl):RT P n L H c i k Q:=by subst hk;exact segR (ι:=Unit) m (fun _=>L') (fun _=>H) h1 (fun _=>h2)
theorem Xy0 (s:Nat)(N:List Nat)(m:Nat)(h:DT P n L H c (fun w=>Sat w (H.drop s)) N m (List.replicate m false) Q)(hS:∀w,Sat w H→Sat w (H.drop s):=by intro _ h;repeat first|exact h|replace h:=Sat.tail h)(hk:ZaG c= .region true:=by kernel_rfl)(hm:P.follows .mixedOrders=true:=by kernel_rfl)(hl:(Zas c).length=m:=by kernel_rfl):CT P n L H c Q:=ZqQ _ N m hk hm hl hS h
theorem Xh0 {i0 m j:Nat}{X:SP}(h:RT P n L (X::H.eraseIdx j) c i0 m Q)(i m':Nat)(hi:H[i]? =some X:=by rfl)(hj:j=i:=by rfl)(hm:m=m':=by rfl):RT P n L H c i0 m' Q:=by subst hj hm;exact PT.pick j hi h
theorem Yo {S:World→Prop}{N:List Nat}{fuel:Nat}{listed:List Bool}{d:Option Tmp}{rv:Unit→Value}{Hx:Unit→List SP}(i:Nat)(hst:Step P n L H c i d rv Hx)(hn:DT P n (ZdJ d (rv ()) L) (Hx ()) c S N (fuel-1) (listed.set i true) Q)
  (hS:∀x w,Sat w (Hx x)→N.contains i=false→S w:=by intro _ _ h hn;first|exact absurd hn (by decide)|repeat first|exact h|replace h:=Sat.tail h) (hf:fuel=(fuel-1)+1:=by kernel_rfl) (hr:(Region.ready .any (Zas c).toArray listed.toArray==[i]&& [i] !=[])=true:=by kernel_rfl):DT P n L H c S N fuel listed Q:=Zqk i _ _ hf rfl hr hst hS fun _=>hn
theorem cT (h:CT P n L H (sub c 0) Q)(hk:ZaG c= .cond:=by kernel_rfl)(hb:∀rest,ZaD L rest (Zjp c)= .bool true:=by intro _;kernel_rfl):CT P n L H c Q:=ZqR hk hb (fun _=>h) (fun h=>by cases h)
theorem cF (h:CT P n L H (sub c 1) Q)(hk:ZaG c= .cond:=by kernel_rfl)(hb:∀rest,ZaD L rest (Zjp c)= .bool false:=by intro _;kernel_rfl):CT P n L H c Q:=ZqR hk hb (fun h=>by cases h) (fun _=>h)
theorem Y0 {fn:Func}{R:Ending→World→Prop}(v:Value)(hR:∀w,Sat w H→R (.returned v) w)(h:∀rest:Nat→Value,Zbp P (Zq5 fn (fun t=>look L t (rest t))) []=some (v,[],[]):=by intro _;kernel_rfl):PT n L H (bodyPost P fn R .ret):=Zr8 v h hR .ret (.inr rfl)
theorem Y1 {fn:Func}{R:Ending→World→Prop}(v:Value)(hR:∀w,Sat w H→R (.returned v) w)(h:∀rest:Nat→Value,Zbp P (Zq5 fn (fun t=>look L t (rest t))) []=some (v,[],[]):=by intro _;kernel_rfl):PT n L H (bodyPost P fn R .normal):=Zr8 v h hR .normal (.inl rfl)
def aF (P:Program)(n:Nat)(c:Code)(i m:Nat)(L:List (Nat×Value))(qs:List (Addr×Value)):List (Nat×Value):=
 match Zfx P n (Zas c) (((Zas c).drop i).take m) L (fun _=>undef) qs with
 |some (L',_,_)=>L'
 |none=> []
theorem aR {i z:Nat}(m:Nat)(qs:List (Addr×Value))(has:∀w,Sat w H→∀q∈qs,w.cell? q.1=some q.2)(h:∀rest,Zfx P n (Zas c) (((Zas c).drop i).take m) L rest qs=some (aF P n c i m L qs,qs.map fun q=>(q.1,q.1),[]))(hn:RT P n (aF P n c i m L qs) H c (i+m) z Q):RT P n L H c i (m+z) Q:=by
 intro rest w ho hs;have e:((Zas c).drop i).take (m+z)=((Zas c).drop i).take m++((Zas c).drop (i+m)).take z:=by rw[List.take_add,List.drop_drop]
 rw[e];exact ZeW _ (h rest) ho (by intro p hp;obtain⟨q,_,rfl⟩:=List.mem_map.1 hp;rfl) (has w hs) (fun ho2=>hn rest w ho2 hs)
theorem Ar {i z m:Nat}(hn:RT P n (aF P n c i m L []) H c (i+m) z Q)(z' m':Nat)(h:∀rest,Zfx P n (Zas c) (((Zas c).drop i).take m') L rest []=some (aF P n c i m' L [],[],[]):=by intro _;kernel_rfl)(hz:z=z':=by rfl)(hm:m=m':=by rfl):RT P n L H c i (m'+z') Q:=by subst hz hm;exact aR m [] Zaa h hn
theorem Ae {i:Nat}(m:Nat)(hn:PT n (aF P n c i m L []) H (Q .normal))(h:∀rest,Zfx P n (Zas c) (((Zas c).drop i).take m) L rest []=some (aF P n c i m L [],[],[]):=by intro _;kernel_rfl):RT P n L H c i m Q:=aR (z:=0) m [] Zaa h (endR hn)
theorem Al {i z m:Nat}(qs:List (Addr×Value))(has:∀w,Sat w H→∀q∈qs,w.cell? q.1=some q.2)(hn:RT P n (aF P n c i m L qs) H c (i+m) z Q)(z' m':Nat)(h:∀rest,Zfx P n (Zas c) (((Zas c).drop i).take m') L rest qs=some (aF P n c i m' L qs,qs.map fun q=>(q.1,q.1),[]):=by intro _;kernel_rfl)(hz:z=z':=by rfl)(hm:m=m':=by rfl):RT P n L H c i (m'+z') Q:=by subst hz hm;exact aR m qs has h hn
theorem Am {i:Nat}(m:Nat)(qs:List (Addr×Value))(has:∀w,Sat w H→∀q∈qs,w.cell? q.1=some q.2)(hn:PT n (aF P n c i m L qs) H (Q .normal))(h:∀rest,Zfx P n (Zas c) (((Zas c).drop i).take m) L rest qs=some (aF P n c i m L qs,qs.map fun q=>(q.1,q.1),[]):=by intro _;kernel_rfl):RT P n L H c i m Q:=aR (z:=0) m qs has h (endR hn)
def aT (P:Program)(n:Nat)(c:Code)(N is:List Nat)(listed:List Bool)(L:List (Nat×Value))(qs:List (Addr×Value)):List (Nat×Value):=
 match Zch P n (Zas c) N is listed L (fun _=>undef) qs with
 |some (L',_,_,_)=>L'
 |none=> []
theorem At' {S:World→Prop}{N:List Nat}{fuel:Nat}{listed:List Bool}(is:List Nat)(qs:List (Addr×Value))(has:∀w,S w→∀q∈qs,w.cell? q.1=some q.2)(hn:DT P n (aT P n c N is listed L qs) H c S N (fuel-is.length) (is.foldl (fun l i=>l.set i true) listed) Q)
  (hS:∀w,Sat w H→S w:=by intro _ h;repeat first|exact h|replace h:=Sat.tail h) (hQ:∀ch d (a:Act) v w,Q (.panic ch) (a.put d v) w→Q (.panic ch) a w:=by intro _ d _ _ _ h;cases d<;>exact h) (hf:fuel=(fuel-is.length)+is.length:=by kernel_rfl)
  (h:∀rest,Zch P n (Zas c) N is listed L rest qs=some (aT P n c N is listed L qs,qs.map fun q=>(q.1,q.1),[],is.foldl (fun l i=>l.set i true) listed):=by intro _;kernel_rfl):DT P n L H c S N fuel listed Q:=by
 intro rest w ho hs;rw[hf];exact ZdQ hQ (hS w hs) is (h rest) ho (by intro p hp;obtain⟨q,_,rfl⟩:=List.mem_map.1 hp;rfl) has (fun ho2=>hn rest w ho2 hs)
theorem mA {ι:Type}{Lx:ι→List (Nat×Value)}{Hx:ι→List SP}(x:ι)(hk:Zd4 ((Lx x).map Prod.fst) L=some (Lx x):=by kernel_rfl)(hH:H=Hx x:=by rfl):PT n L H (mid n Lx Hx):=PT.keep _ hk (Zcm x rfl hH)
theorem gA {ι:Type}{Lx:ι→List (Nat×Value)}{Hx:ι→List SP}{R:Nat→ι→Prop}{k:Nat}(k':Nat)(x:ι)(ha:k'<k)(hr:R k' x)(hk:Zd4 ((Lx x).map Prod.fst) L=some (Lx x):=by kernel_rfl)(hH:H=Hx x:=by rfl):PT n L H (Zji n Lx Hx R k):=PT.keep _ hk (Za3 k' x rfl hH ha hr)
theorem eG {f:FuncId}{fn:Func}{R:Ending→World→Prop}{vs:List Value}(hf:P.funcs[f]? =some fn)(n:Nat)(h:CT P n (Zq1 0 vs) H (Zj2 fn) (bodyPost P fn R))(hb:fn.body.isSome=true:=by kernel_rfl)(hn:fn.ntmps=n:=by kernel_rfl)(hl:Nat.ble vs.length n=true:=by kernel_rfl):∀w,Sat w H→Calls P f vs.toArray w R:=Zr5 n vs hf hb hn hl h
def cq (b:Nat):Nat→List Value→List (Addr×Value)
 |_,[]=> []
 |j,v::r=>(⟨b,j,none⟩,v)::cq b (j+1) r
theorem Zpy {b:Nat}:∀{cs:List Value} {j:Nat} {q:Addr×Value},q∈cq b j cs→∃k,q.1=⟨b,j+k,none⟩∧cs[k]? =some q.2
  | v ::r,j,q,h=>by
    rcases List.mem_cons.1 h with rfl|h
    · exact⟨0,rfl,rfl⟩
    · obtain⟨k,h1,h2⟩:=Zpy h
      exact⟨k+1,by rw[h1,Nat.add_assoc,Nat.add_comm 1],h2⟩
theorem dB {fn:Func}{R:Ending→World→Prop}(i:Nat)(v:Value)(hR:∀w,Sat w H→R (.returned v) w){b:Nat}{T:TypeId}{cs:List Value}(hi:H[i]? =some (blk b T cs):=by rfl)(h:∀rest:Nat→Value,Zbp P (Zq5 fn (fun t=>look L t (rest t))) (cq b 0 cs)=some (v,(cq b 0 cs).map fun q=>(q.1,q.1),[]):=by intro _;kernel_rfl):PT n L H (bodyPost P fn R .ret):=Zm8 v (cq b 0 cs) (fun w hs q hq=>by
  obtain⟨k,h1,h2⟩:=Zpy hq;rw[h1,Nat.zero_add];exact ZaS i hi h2 w hs) h hR .ret (.inr rfl)
theorem Br {i K:Nat}(z m:Nat)(hn:RT P n (aF P n c i m L []) H c (i+m) z Q)(h:∀rest,Zfx P n (Zas c) (((Zas c).drop i).take m) L rest []=some (aF P n c i m L [],[],[]):=by intro _;kernel_rfl)(hK:K=m+z:=by rfl):RT P n L H c i K Q:=by subst hK;exact aR m [] Zaa h hn
theorem Bl {i K:Nat}(z m:Nat)(qs:List (Addr×Value))(has:∀w,Sat w H→∀q∈qs,w.cell? q.1=some q.2)(hn:RT P n (aF P n c i m L qs) H c (i+m) z Q)(h:∀rest,Zfx P n (Zas c) (((Zas c).drop i).take m) L rest qs=some (aF P n c i m L qs,qs.map fun q=>(q.1,q.1),[]):=by intro _;kernel_rfl)(hK:K=m+z:=by rfl):RT P n L H c i K Q:=by subst hK;exact aR m qs has h hn
theorem Be {i m:Nat}(hn:PT n (aF P n c i m L []) H (Q .normal))(h:∀rest,Zfx P n (Zas c) (((Zas c).drop i).take m) L rest []=some (aF P n c i m L [],[],[]):=by intro _;kernel_rfl):RT P n L H c i m Q:=aR (z:=0) m [] Zaa h (endR hn)
theorem Bm {i m:Nat}(qs:List (Addr×Value))(has:∀w,Sat w H→∀q∈qs,w.cell? q.1=some q.2)(hn:PT n (aF P n c i m L qs) H (Q .normal))(h:∀rest,Zfx P n (Zas c) (((Zas c).drop i).take m) L rest qs=some (aF P n c i m L qs,qs.map fun q=>(q.1,q.1),[]):=by intro _;kernel_rfl):RT P n L H c i m Q:=aR (z:=0) m qs has h (endR hn)
theorem Bx {ι:Type}{i K:Nat}{d:Option Tmp}{rv:ι→Value}{Hx:ι→List SP}(z:Nat)(hst:Step P n L H c i d rv Hx)(hn:∀x,RT P n (ZdJ d (rv x) L) (Hx x) c (i+1) z Q)(hK:K=z+1:=by rfl):RT P n L H c i K Q:=by subst hK;exact ZnP hst hn
theorem Bs {i K:Nat}{d:Option Tmp}{rv:Unit→Value}{Hx:Unit→List SP}(z:Nat)(hst:Step P n L H c i d rv Hx)(hn:RT P n (ZdJ d (rv ()) L) (Hx ()) c (i+1) z Q)(hK:K=z+1:=by rfl):RT P n L H c i K Q:=by subst hK;exact ZnP hst fun _=>hn
theorem Cr {i K:Nat}(z m:Nat)(L':List (Nat×Value))(hn:RT P n L' H c (i+m) z Q)(h:∀rest,Zl2 P n (Zas c) i m (L'.map Prod.fst) L rest []=some (L',[]):=by intro _;kernel_rfl)(hK:K=m+z:=by rfl):RT P n L H c i K Q:=by subst hK;exact Zss m _ L' h hn
theorem Cl {i K:Nat}(z m:Nat)(L':List (Nat×Value))(qs:List (Addr×Value))(has:∀w,Sat w H→∀q∈qs,w.cell? q.1=some q.2)(hn:RT P n L' H c (i+m) z Q)(h:∀rest,Zl2 P n (Zas c) i m (L'.map Prod.fst) L rest qs=some (L',qs.map fun q=>(q.1,q.1)):=by intro _;kernel_rfl)(hK:K=m+z:=by rfl):RT P n L H c i K Q:=by subst hK;exact Zrt m _ L' qs has h hn
theorem Ce {i m:Nat}(L':List (Nat×Value))(hn:PT n L' H (Q .normal))(h:∀rest,Zl2 P n (Zas c) i m (L'.map Prod.fst) L rest []=some (L',[]):=by intro _;kernel_rfl):RT P n L H c i m Q:=Zss (z:=0) m _ L' h (endR hn)
theorem Cm {i m:Nat}(L':List (Nat×Value))(qs:List (Addr×Value))(has:∀w,Sat w H→∀q∈qs,w.cell? q.1=some q.2)(hn:PT n L' H (Q .normal))(h:∀rest,Zl2 P n (Zas c) i m (L'.map Prod.fst) L rest qs=some (L',qs.map fun q=>(q.1,q.1)):=by intro _;kernel_rfl):RT P n L H c i m Q:=Zrt (z:=0) m _ L' qs has h (endR hn)
end
end Go.Proofs.YtfhkgohokbkgiaaGreatDoor.G
namespace Go.Proofs.YtfhkgohokbkgiaaGreatDoor
open Go.RowKit G
abbrev AN :=Option Addr×Nat
theorem Kr {p:Prop}(h:p:=by kernel_rfl):p:=h
abbrev U1 (f:FuncId)(vs:Array Value)(H:List SP){ι:Type}(rv:ι→Value)(Hx:ι→List SP):Prop:=∀w,Sat w H→Calls Tryz.prog f vs w (Ret rv Hx)
abbrev U0 (f:FuncId)(vs:Array Value)(H:List SP)(v:Value)(Hx:List SP):Prop:=∀w,Sat w H→Calls Tryz.prog f vs w (Ret (ι:=Unit) (fun _=>v) fun _=>Hx)
abbrev US (f:FuncId)(vs:Array Value)(H:List SP)(v:Value):Prop:=∀w,Sat w H→Calls Tryz.prog f vs w (Ret (ι:=Unit) (fun _=>v) fun _=>H)
end Go.Proofs.YtfhkgohokbkgiaaGreatDoor
namespace Go.Proofs.YtfhkgohokbkgiaaGreatDoor.G
open Go.RowKit Go.Proofs.YtfhkgohokbkgiaaGreatDoor Go.MapKept
def ZeB (l:List (Int×Value)):List (Value×Value):=l.map fun p=>(.int .i64 p.1,p.2)
def ZcK (e:MapEntry):Value×Value:=(e.key,e.val)
def Zbl (b :Nat) (l:List (Int×Value)):SP:=⟨fun w F=>(∃es ck,w.heap[b]? =some (.map es ck)∧Stamped es ck∧es.toList.map ZcK=ZeB l)∧∀x,F x↔x=b,
  fun h x hx=>by
    obtain⟨⟨es,ck,hb,_⟩,hF⟩:=h;rw[(hF x).1 hx];exact(Array.getElem?_eq_some_iff.1 hb).1,
  fun h a=>by
    obtain⟨⟨es,ck,hb,h2⟩,hF⟩:=h;exact⟨⟨es,ck,(a.keep b ((hF b).2 rfl)).trans hb,h2⟩,hF⟩⟩
def lkE :List (Int×Value)→Int→Option Value
 | [],_=>none
 |p::r,k=>if p.1==k then some p.2 else lkE r k
def lkI :List (Int×Value)→Int→Nat→Option Nat
 | [],_,_=>none
 |p::r,k,i=>if p.1==k then some i else lkI r k (i+1)
theorem ZcS (k:Int):∀(es:List MapEntry) (l:List (Int×Value)) (i:Nat),es.map ZcK=ZeB l→
    Instr.findNow (.int .i64) (.int .i64 k) es i=some ((lkI l k i).bind fun j=>(lkE l k).map fun v=>(j,v))
  | [],[],i,_=>rfl
  | [],p::r,i,h=>by simp[ZeB]at h
  |e::es,[],i,h=>by simp[ZeB]at h
  | e ::es,p::r,i,h=>by
    have h':=h;rw[List.map_cons,ZeB,List.map_cons,List.cons.injEq]at h';have hk:e.key= .int .i64 p.1:=congrArg Prod.fst h'.1;have hv:e.val=p.2:=congrArg Prod.snd h'.1;have ih:=ZcS k es r (i+1) h'.2;rw[Instr.findNow,hk,hv];simp only[Instr.sameNow,if_true];by_cases c:k=p.1
    · subst c
      simp[lkI,lkE]
    · have c1:(k==p.1)=false:=by simpa using c
      have c2:(p.1==k)=false:=by simp;exact fun h=>c h.symm
      rw[c1,ih];simp[lkI,lkE,c2]
section
variable {P :Program}{n:Nat}{L:List (Nat×Value)}{H:List SP}{c:Code}{w:World}
theorem Zfw {mty kt et:TypeId}{b:Nat}{es:Array MapEntry}{ck:Nat}{l:List (Int×Value)}{z:Value}(k:Int)(ok:Bool)(hm:P.underlying mty=some (.map kt et))(hk:P.underlying kt=some (.int .i64))(hz:(zeroValue et).run P w= .ok z w)
    (hb:w.heap[b]? =some (.map es ck)) (he:es.toList.map ZcK=ZeB l):
    (Instr.lookup mty (.map (some b)) (.int .i64 k) ok).run P w= .ok (if ok then .tuple #[(lkE l k).getD z,.bool (lkE l k).isSome] else(lkE l k).getD z) w:=by
  have hg:(getObj b).run P w= .ok (.map es ck) w:=Go.MapKept.run_getObj_map hb;have hf:=run_findKey (P:=P) (w:=w) hk (ZcS k es.toList l 0 he);have hck:(Instr.checkKey es.isEmpty 10000 kt (.int .i64 k)).run P w= .ok () w:=run_checkKey hk (by simp[IsKey]) _ _;have hli:∀(l:List (Int×Value)) (i:Nat),(lkI l k i).isSome=(lkE l k).isSome:=by
    intro l;induction l with
    |nil=>intro i;rfl
    |cons p r ih=>intro i;simp only[lkI,lkE];split;rfl;exact ih _
  unfold Instr.lookup;simp only[Sem.run_bind,run_underlying hm,Result.andThen_ok,hg,Sem.run_pure,hck,hf];have h1:=hli l 0;cases hv:lkE l k with
  | none=>
    rw[hv]at h1;have h2:lkI l k 0=none:=by simpa using h1
    simp[h2,hz]
  | some v=>
    rw[hv]at h1;obtain⟨j,h2⟩:=Option.isSome_iff_exists.1 h1;simp[h2]
theorem ZbU {b i:Nat}{l:List (Int×Value)}(hi:H[i]? =some (Zbl b l)):∀w,Sat w H→∃es ck,w.heap[b]? =some (.map es ck)∧es.toList.map ZcK=ZeB l:=by
 intro w hs;obtain⟨G,⟨es,ck,hb,_,he⟩,_⟩:=(hs.pick i hi).head;exact⟨es,ck,hb,he⟩
theorem ZbW {S:World→Prop}{i:Nat}(t:TypeId)(x ix:Operand)(ok:Bool)(b:Nat)(k:Int)(l:List (Int×Value))(z v:Value)(kt et:TypeId)(d:Option Tmp)(hg:∀rest,Zcc n c i L rest=true)(hd:(Za5 c i).dst=d)(hop:(Za5 c i).op= .lookup t x ix ok)
  (hx:∀rest,ZaD L rest x= .map (some b)) (hix:∀rest,ZaD L rest ix= .int .i64 k) (hm:P.underlying t=some (.map kt et)) (hk:P.underlying kt=some (.int .i64)) (hz:∀w,(zeroValue et).run P w= .ok z w)
  (hS:∀w,S w→∃es ck,w.heap[b]? =some (.map es ck)∧es.toList.map ZcK=ZeB l) (hv:(if ok then .tuple #[(lkE l k).getD z,.bool (lkE l k).isSome] else(lkE l k).getD z)=v):Yld P n L S c i d v:=by
 refine⟨hg,hd,fun rest w _ hs=>?_⟩;obtain⟨es,ck,hb,he⟩:=hS w hs;have:=Zfw (P:=P) (w:=w) k ok hm hk (hz w) hb he;unfold execOp;simp only[hop,hx rest,hix rest];simp only[Sem.run_bind,Sem.run_map,this,hv];rfl
theorem Zqq {i : Nat} (d:Option Tmp) (v:Nat→Value) (h:∀rest r,newOk P n c i L rest r=some (.map #[] 0,v r,d)):Step P n L H c i d v (fun b=>Zbl b []::H):=by
  have key:∀rest r,Zcc n c i L rest=true∧(Za5 c i).dst=d∧∃f,ZnD P (execOp (ZaD L rest) (Za5 c i))=some (.map #[] 0,f)∧f r=some (.value (v r)):=by
    intro rest r;have h0:=h rest r;unfold newOk at h0;cases hg:Zcc n c i L rest with
    |false=>rw[hg]at h0;cases h0
    | true=>
      rw[hg]at h0;simp only at h0;cases hr:ZnD P (execOp (ZaD L rest) (Za5 c i))with
      |none=>rw[hr]at h0;cases h0
      | some z=>
        obtain⟨o,f⟩:=z;rw[hr]at h0;simp only at h0;cases hf:f r with
        |none=>rw[hf]at h0;cases h0
        | some x=>
          rw[hf]at h0;cases x with
          | value u=>
            simp only[Option.some.injEq,Prod.mk.injEq]at h0;obtain⟨rfl,rfl,rfl⟩:=h0;exact⟨rfl,rfl,f,rfl,hf⟩
          |_=>cases h0
  refine valueS d v _ (fun rest=>(key rest 0).1) (key (fun _=>undef) 0).2.1 ?_;intro rest w _ hs;obtain⟨_,_,f,h1,h2⟩:=key rest w.heap.size;refine⟨w.heap.size,w.alloc (.map #[] 0),ZjD _ h1 h2,?_⟩;exact Sat.fresh hs (Upd.alloc _ _ _) (G':=fun b=>b=w.heap.size) ⟨⟨#[],0,(heap_alloc w _).1,stamped_empty 0,rfl⟩,fun _=>Iff.rfl⟩ (fun b hb=>by omega)
theorem ZmG {l:List (Int×Value)}{es:List MapEntry}(h:es.map ZcK=ZeB l):es.map (·.key)=l.map fun p=>Value.int .i64 p.1:=by
 have:=congrArg (List.map Prod.fst) h;simp only[List.map_map,ZeB]at this;exact this
theorem lkE_none {l:List (Int×Value)}{k:Int}:lkE l k=none↔∀p∈l,p.1≠k:=by
  induction l with
  |nil=>simp[lkE]
  | cons p r ih=>
    simp only[lkE];by_cases c:p.1=k
    · simp[c]
    · have:(p.1==k)=false:=by simpa using c
      rw[this];simp[c,ih]
theorem Zor {l:List (Int×Value)}{k:Int}:∀i,lkE l k=none→lkI l k i=none:=by
  induction l with
  |nil=>intro i _;rfl
  | cons p r ih=>
    intro i h;simp only[lkE,lkI]at h ⊢;split at h
    · cases h
    · rename_i c;rw[if_neg c];exact ih _ h
theorem Ztb {i:Nat}(t:TypeId)(m k v:Operand)(b:Nat)(kk:Int)(l:List (Int×Value))(vv:Value)(kt et:TypeId)(hg:∀rest,Zcc n c i L rest=true)(hd:(Za5 c i).dst=none)(hop:(Za5 c i).op= .mapUpdate t m k v∨(Za5 c i).op= .insert t m k v)
  (hx:∀rest,ZaD L rest m= .map (some b)) (hix:∀rest,ZaD L rest k= .int .i64 kk) (hvv:∀rest,ZaD L rest v=vv) (hm:P.underlying t=some (.map kt et)) (hk:P.underlying kt=some (.int .i64)) (hn:lkE l kk=none):
  Step (ι:=Unit) P n L (Zbl b l::H) c i none (fun _=>undef) (fun _=>Zbl b (l++[(kk,vv)])::H):=by
 refine skipS _ hg hd ?_;intro rest w _ hs;obtain⟨G,⟨⟨es,ck,hb,hst,he⟩,hF⟩⟩:=hs.head;have hf:=run_findKey (P:=P) (w:=w) hk (ZcS kk es.toList l 0 he);rw[Zor 0 hn]at hf;have hck:(Instr.checkKey false 10000 kt (.int .i64 kk)).run P w= .ok () w:=run_checkKey hk (by simp[IsKey]) _ _;have hr:(Instr.mapUpdate t (.map (some b)) (.int .i64 kk) vv).run P w= .ok () {w with heap:=w.heap.setIfInBounds b (.map (es.push {key:= .int .i64 kk,val:=vv,born:=ck}) (ck+1))}:=by
  simp[Instr.mapUpdate,run_underlying hm,Go.MapKept.run_getObj_map hb,hck,hf,run_setObj_map _ hb,Result.andThen]
 refine⟨{w with heap:=w.heap.setIfInBounds b (.map (es.push {key:= .int .i64 kk,val:=vv,born:=ck}) (ck+1))},?_,?_⟩
 ·unfold execOp
  rcases hop with hop|hop<;>simp only[hop,hx rest,hix rest,hvv rest]<;>simp only[Sem.run_bind,Sem.run_map,hr]<;>rfl
 ·refine hs.change fun G' hG'=>⟨⟨rfl,rfl,rfl,by simp,fun b' hb' hn'=>?_⟩,G',⟨⟨_,_,(heap_set hb).1,stamped_push hst ?_,?_⟩,hG'.2⟩,fun _ h=> .inl h⟩
  ·exact(heap_set hb).2 b' (fun h=>hn' ((hG'.2 b').2 h))
  ·intro x hx hkx
   have h1:=ZmG he;have h2:x.key∈es.toList.map (·.key):=List.mem_map.2 ⟨x,hx,rfl⟩;rw[h1,List.mem_map]at h2;obtain⟨p,hp,hpk⟩:=h2;rw[hkx]at hpk;injection hpk with _ e2;exact(lkE_none.1 hn) p hp e2
  ·simp[he,ZeB,ZcK]
end
def Zit (bi mb:Nat) (l:List (Int×Value)) (done:List Nat):SP:=⟨fun w F=>(bi≠mb∧∃es ck seen,w.heap[mb]? =some (.map es ck)∧w.heap[bi]? =some (.mapIter (some mb) ck seen ck)∧Stamped es ck∧es.toList.map ZcK=ZeB l∧seen.toList.map some=done.map (fun j=>(es.toList[j]?).map (·.born)))∧∀x,F x↔x=mb∨x=bi,
  fun h x hx=>by
    obtain⟨⟨_,es,ck,seen,hb,hi,_⟩,hF⟩:=h;rcases(hF x).1 hx with rfl|rfl
    · exact(Array.getElem?_eq_some_iff.1 hb).1
    · exact(Array.getElem?_eq_some_iff.1 hi).1,
  fun h a=>by
    obtain⟨⟨hn,es,ck,seen,hb,hi,h2⟩,hF⟩:=h;exact⟨⟨hn,es,ck,seen,(a.keep mb ((hF mb).2 (.inl rfl))).trans hb,(a.keep bi ((hF bi).2 (.inr rfl))).trans hi,h2⟩,hF⟩⟩
section
variable {P :Program}{n:Nat}{L:List (Nat×Value)}{H:List SP}{c:Code}{Q:Exit→Act→World→Prop}
theorem Zn5 {bi mb:Nat}{l:List (Int×Value)}{done:List Nat}{w:World}(h:Sat w (Zit bi mb l done::H)):Sat w (Zbl mb l::H):=by
 refine h.change fun G hG=>⟨Upd.refl _ _,fun b=>b=mb,?_,fun b hb=> .inl ((hG.2 b).2 (.inl hb))⟩
 obtain⟨⟨_,es,ck,seen,hb,hi,hs,he,_⟩,hF⟩:=hG;exact⟨⟨es,ck,hb,hs,he⟩,fun _=>Iff.rfl⟩
theorem PT.rngEnd {bi mb:Nat}{l:List (Int×Value)}{done:List Nat}{Φ:Act→World→Prop}(h:PT n L (Zbl mb l::H) Φ):PT n L (Zit bi mb l done::H) Φ:=PT.sat (fun _ hs=>Zn5 hs) h
theorem Zpg {i:Nat}(t:TypeId)(x:Operand)(mb:Nat)(l:List (Int×Value))(kt et:TypeId)(d:Option Tmp)(hg:∀rest,Zcc n c i L rest=true)(hd:(Za5 c i).dst=d)(hop:(Za5 c i).op= .range t x)
  (hx:∀rest,ZaD L rest x= .map (some mb)) (hm:P.underlying t=some (.map kt et)):Step P n L (Zbl mb l::H) c i d (fun bi=> .pointer (some ⟨bi,0,none⟩)) (fun bi=>Zit bi mb l []::H):=by
 refine valueS d _ _ hg hd ?_;intro rest w _ hsat;obtain⟨G,⟨⟨es,ck,hb,hst,he⟩,hF⟩⟩:=hsat.head;refine⟨w.heap.size,w.alloc (.mapIter (some mb) ck #[] ck),?_,?_⟩
 ·unfold execOp
  simp only[hop,hx rest,Sem.run_bind,Sem.run_map,run_range_map w t kt et mb es ck hm hb];rfl
 ·have hlt:=(Array.getElem?_eq_some_iff.1 hb).1
  refine hsat.change fun G' hG'=>⟨⟨rfl,rfl,rfl,by simp,fun b hb' _=>(heap_alloc w _).2 b hb'⟩,fun x=>x=mb∨x=w.heap.size,⟨⟨by omega,es,ck, #[],?_,(heap_alloc w _).1,hst,he,rfl⟩,fun _=>Iff.rfl⟩,fun b hb'=>?_⟩
  ·rw[(heap_alloc w _).2 mb hlt];exact hb
  ·rcases hb' with rfl|rfl
   ·exact .inl ((hG'.2 b).2 rfl)
   ·exact .inr (Nat.le_refl _)
theorem next_run (w:World)(ty:TypeId)(mb bi ck:Nat)(seen:Array Nat)(es:Array MapEntry)(hb:w.heap[mb]? =some (.map es ck))(hi:w.heap[bi]? =some (.mapIter (some mb) ck seen ck))(hold:∀x∈es.toList,x.born<ck):
  ((leftOf es seen).size=0∧(Instr.next (.pointer (some ⟨bi,0,none⟩)) false ty).run P w= .ok (.tuple #[.bool false]) w)∨
  ∃e∈(leftOf es seen).toList,∃w1:World,(w1=w∨w1=w.drew)∧(Instr.next (.pointer (some ⟨bi,0,none⟩)) false ty).run P w= .ok (.tuple #[.bool true,e.key,e.val]) {w1 with heap:=w.heap.setIfInBounds bi (.mapIter (some mb) ck (seen.push e.born) ck)}:=by
 simp only[Instr.next,getObj,Sem.run_bind,Sem.run,hi,hb,Result.andThen,next_test_false seen es ck ck hold (Nat.le_refl _),Bool.false_eq_true,if_false];unfold leftOf;have hmem:∀x∈(Array.filter (fun e=> !seen.contains e.born) es).toList,x.born<ck:=fun x hx=>hold x (by simp at hx ⊢;exact hx.1)
 generalize Array.filter (fun e=> !seen.contains e.born) es=M at hmem ⊢;have e1:M.filter (fun x=>decide (x.born<ck))=M:=Array.filter_eq_self.2 (fun x hx=>by simpa using hmem x (by simpa using hx));have e2:M.filter (fun x=>decide (x.born≥ck))= #[]:=by
  rw[Array.filter_eq_empty_iff];intro x hx;have:=hmem x (by simpa using hx);simp;omega
 simp only[e1,e2,Array.append_empty];by_cases h0:M.size=0
 ·left
  have:M= #[]:=Array.eq_empty_of_size_eq_zero h0;subst this;refine⟨rfl,?_⟩;simp[choose,Sem.run,Question.forced]
 ·right
  have hne:M.isEmpty=false:=by simp[Array.isEmpty,h0]
  simp only[hne,Bool.false_eq_true,if_false,Array.empty_append,Array.size_map];have hch:∃(j:Nat) (w1:World),j<M.size∧(w1=w∨w1=w.drew)∧(choose (Question.mapNext M.size)).run P w= .ok j w1:=by
   by_cases hf:M.size≤1
   ·exact⟨0,w,by omega,.inl rfl,by simp[choose,Sem.run,Question.forced,hf]⟩
   ·exact⟨_,w.drew,Nat.mod_lt _ (by omega),.inr rfl,by
     simp only[choose,Sem.run,Question.forced,decide_eq_true_eq,hf,if_false,Question.cut];rfl⟩
  obtain⟨j,w1,hj,hal,hrun⟩:=hch;refine⟨M[j],by simp,w1,hal,?_⟩;have hh:w1.heap=w.heap:=by rcases hal with rfl|rfl<;>rfl
  have hset:∀(o':Obj),(setObj bi o').run P w1= .ok () {w1 with heap:=w.heap.setIfInBounds bi o'}:=fun o'=>by
   simp only[setObj,Sem.run,hh,hi]
  simp only[hrun,Array.getElem?_map,Array.getElem?_eq_getElem hj,Option.map_some,Sem.run_bind,hset,Result.andThen];rfl
theorem Zqu {es :Array MapEntry} {seen:Array Nat} {done:List Nat} {l:List (Int×Value)} (he:es.toList.map ZcK=ZeB l) (hs:seen.toList.map some=done.map (fun j=>(es.toList[j]?).map (·.born))) (hn:(es.toList.map (·.born)).Nodup):
    ((leftOf es seen).size=0→∀j,j<l.length→j∈done)∧∀e∈(leftOf es seen).toList,∃j k v,l[j]? =some (k,v)∧j ∉ done∧es.toList[j]? =some e∧e.key= .int .i64 k∧e.val=v:=by
  have hlen:es.toList.length=l.length:=by simpa [ZeB] using congrArg List.length he
  have key:∀j e,es.toList[j]? =some e→(seen.contains e.born=true↔j∈done):=by
    intro j e hj;have h1:seen.contains e.born=true↔some e.born∈seen.toList.map some:=by simp
    rw[h1,hs,List.mem_map];constructor
    · rintro⟨i,hi,hb⟩
      obtain⟨e',he',hbe⟩:=Option.map_eq_some_iff.1 hb;have hil:=(gSs he').1;have hjl:=(gSs hj).1;have:i=j:=by
        refine(List.getElem_inj (h₀:=by simpa using hil) (h₁:=by simpa using hjl) hn).1 ?_;simp only[List.getElem_map];rw[(gSs he').2,(gSs hj).2,hbe]
      subst this;exact hi
    · intro hjd
      exact⟨j,hjd,by rw[hj];rfl⟩
  constructor
  · intro h0 j hj
    have hje:es.toList[j]? =some (es.toList[j]'(by omega)):=gEe (by omega);refine(key j _ hje).1 ?_;have hempty:leftOf es seen= #[]:=Array.eq_empty_of_size_eq_zero h0;rw[leftOf,Array.filter_eq_empty_iff]at hempty;have:=hempty (es.toList[j]'(by omega)) (by simp);simpa using this
  · intro e hel
    simp only[leftOf,Array.toList_filter,List.mem_filter]at hel;obtain⟨j,hj,hje⟩:=List.mem_iff_getElem.1 hel.1;have hj? :es.toList[j]? =some e:=by rw[gEe hj,hje]
    have hl:(es.toList.map ZcK)[j]? =(ZeB l)[j]? :=by rw[he]
    rw[List.getElem?_map,hj?]at hl;simp only[ZeB,List.getElem?_map,Option.map_some]at hl;cases hlj:l[j]? with
    |none=>rw[hlj]at hl;simp at hl
    | some p=>
      obtain⟨k,v⟩:=p;rw[hlj]at hl;simp only[Option.map_some,Option.some.injEq,ZcK,Prod.mk.injEq]at hl;refine⟨j,k,v,hlj,fun hd=>?_,hj?,hl.1,hl.2⟩;have:=(key j e hj?).2 hd;simp at hel this;exact hel.2 this
theorem ZrJ {i z:Nat} (x:Operand) (bi mb:Nat) (l:List (Int×Value)) (done:List Nat) (d:Option Tmp) (hg:∀rest,Zcc n c i L rest=true) (hd:(Za5 c i).dst=d) (hop:(Za5 c i).op= .next x false)
    (hx:∀rest,ZaD L rest x= .pointer (some ⟨bi,0,none⟩))
    (h0:(∀j,j<l.length→j∈done)→RT P n (ZdJ d (.tuple #[.bool false]) L) (Zit bi mb l done::H) c (i+1) z Q)
    (h1:∀j k v,l[j]? =some (k,v)→j ∉ done→RT P n (ZdJ d (.tuple #[.bool true,.int .i64 k,v]) L) (Zit bi mb l (done++[j])::H) c (i+1) z Q):RT P n L (Zit bi mb l done::H) c i (z+1) Q:=by
  have key:Step (ι:={o:Option (Nat×Int×Value)//match o with|none=>∀j,j<l.length→j∈done|some (j,k,v)=>l[j]? =some (k,v)∧j ∉ done}) P n L (Zit bi mb l done::H) c i d
      (fun o=>match o.1 with|none=> .tuple #[.bool false] |some (_,k,v)=> .tuple #[.bool true,.int .i64 k,v]) (fun o=>match o.1 with|none=>Zit bi mb l done::H|some (j,_,_)=>Zit bi mb l (done++[j])::H):=by
    refine valueS d _ _ hg hd ?_;intro rest w _ hsat;obtain⟨G,⟨⟨hne,es,ck,seen,hb,hi,hst,he,hs⟩,hF⟩⟩:=hsat.head;obtain⟨hl0,hl1⟩:=Zqu he hs hst.2.1;have hex:∀r w',(Instr.next (.pointer (some ⟨bi,0,none⟩)) false (Za5 c i).type).run P w= .ok r w'→(execOp (ZaD L rest) (Za5 c i)).run P w= .ok (.value r) w':=by
      intro r w' hr;unfold execOp;simp only[hop,hx rest,Sem.run_bind,Sem.run_map,hr];rfl
    rcases next_run (P:=P) w (Za5 c i).type mb bi ck seen es hb hi hst.1 with⟨hz,hr⟩|⟨e,hel,w1,hw1,hr⟩
    · exact⟨⟨none,hl0 hz⟩,w,hex _ _ hr,hsat⟩
    · obtain⟨j,k,v,hlj,hjd,hje,hk,hv⟩:=hl1 e hel
      refine⟨⟨some (j,k,v),hlj,hjd⟩,_,by rw[hex _ _ hr,hk,hv],?_⟩;have hos:w1.os=w.os∧w1.tape=w.tape∧w1.output=w.output:=by rcases hw1 with rfl|rfl<;>exact⟨rfl,rfl,rfl⟩
      refine hsat.change fun G' hG'=>⟨⟨hos.1,hos.2.1,hos.2.2,by simp,fun b hb' hn'=>?_⟩,G',⟨⟨hne,es,ck,seen.push e.born,?_,(heap_set hi).1,hst,he,?_⟩,hG'.2⟩,fun _ h=> .inl h⟩
      · exact(heap_set hi).2 b (fun h=>hn' ((hG'.2 b).2 (.inr h)))
      · exact((heap_set hi).2 mb (fun h=>hne h.symm)).trans hb
      · simp only[Array.toList_push,List.map_append,List.map_cons,List.map_nil,hs]
        rw[hje];rfl
  refine ZnP key fun o=>?_
  obtain⟨o,ho⟩:=o;cases o with
  |none=>exact h0 ho
  |some q=>obtain⟨j,k,v⟩:=q;exact h1 j k v ho.1 ho.2
theorem Zpx {i:Nat}(x:Operand)(bi mb:Nat)(l:List (Int×Value))(done:List Nat)(j:Nat)(k:Int)(v:Value)(a:Nat)(d:Option Tmp)(hg:∀rest,Zcc n c i L rest=true)(hd:(Za5 c i).dst=d)(hop:(Za5 c i).op= .entry x)
  (hx:∀rest,ZaD L rest x= .pointer (some ⟨bi,0,none⟩)) (ha:H[a]? =some (Zit bi mb l (done++[j]))) (hl:l[j]? =some (k,v)):Yld P n L (fun w=>Sat w H) c i d (.tuple #[.int .i64 k,v]):=by
 refine⟨hg,hd,fun rest w _ hs=>?_⟩;obtain⟨G,⟨⟨hne,es,ck,seen,hb,hi,hst,he,hse⟩,hF⟩⟩:=(hs.pick a ha).head;have hel:(es.toList.map ZcK)[j]? =some (.int .i64 k,v):=by rw[he,ZeB,List.getElem?_map,hl];rfl
 rw[List.getElem?_map]at hel;obtain⟨e,hje,hev⟩:=Option.map_eq_some_iff.1 hel;simp only[ZcK,Prod.mk.injEq]at hev;have hseen:seen.back? =some e.born:=by
  have h1:(seen.toList.map some).getLast? =some (some e.born):=by
   rw[hse,List.map_append,List.map_cons,List.map_nil,List.getLast?_concat,hje];rfl
  rw[List.getLast?_map]at h1;obtain⟨s,hs1,hs2⟩:=Option.map_eq_some_iff.1 h1;rw[←Array.getLast?_toList,hs1,Option.some.inj hs2]
 have hf:es.find? (·.born==e.born)=some e:=by rw[←Array.find?_toList];exact find_born e es.toList hst.2.1 (gMm hje)
 have hr:(Instr.entry (.pointer (some ⟨bi,0,none⟩))).run P w= .ok (.tuple #[.int .i64 k,v]) w:=by
  simp only[Instr.entry,getObj,Sem.run_bind,Sem.run,hi,hb,Result.andThen,hseen,bne_self_eq_false,Bool.false_eq_true,if_false,hf,hev.1,hev.2];rfl
 unfold execOp;simp only[hop,hx rest,Sem.run_bind,Sem.run_map,hr];rfl
theorem ZsN {S:World→Prop}{i:Nat}(t kt et:TypeId)(m:Operand)(mb:Nat)(l:List (Int×Value))(d:Option Tmp)(hg:∀rest,Zcc n c i L rest=true)(hd:(Za5 c i).dst=d)(hop:(Za5 c i).op= .call {callee:= .builtin .len,args:= #[m],argTypes:= #[t]})
  (hx:∀rest,ZaD L rest m= .map (some mb)) (hm:P.underlying t=some (.map kt et)) (hS:∀w,S w→∃es ck,w.heap[mb]? =some (.map es ck)∧es.toList.map ZcK=ZeB l):Yld P n L S c i d (.int .i64 (l.length:Int)):=by
 refine⟨hg,hd,fun rest w _ hs=>?_⟩;obtain⟨es,ck,hb,he⟩:=hS w hs;have hlen:es.size=l.length:=by simpa [ZeB] using congrArg List.length he
 have hr:∀ty,(Builtin.len_ #[t] ty #[.map (some mb)]).run P w= .ok (.int .i64 (l.length:Int)) w:=fun ty=>by
  simp[Builtin.len_,run_underlying hm,Go.MapKept.run_getObj_map hb,goInt,hlen]
 unfold execOp;simp only[hop,resolve,invoke,builtin,Sem.run_bind,Sem.run_pure,Result.andThen_ok,List.map_toArray,List.map_cons,List.map_nil,hx rest,hr]
def Zng (l:List (Int×Value))(k:Int):List (Int×Value):=l.eraseP (fun p=>p.1==k)
theorem Zhn {k :Int}:∀(l:List (Int×Value)) (i:Nat),(match lkI l k i with|some j=>i≤j∧Zng l k=l.eraseIdx (j-i)|none=>Zng l k=l)
  | [],i=>by simp[lkI,Zng]
  | p ::r,i=>by
    have ih:=Zhn (k:=k) r (i+1);simp only[lkI];by_cases c:(p.1==k)=true
    · rw[if_pos c]
      simp[Zng,List.eraseP_cons,c]
    · rw[if_neg c]
      have c':(p.1==k)=false:=by simpa using c
      cases hr:lkI r k (i+1)with
      | none=>
        rw[hr]at ih;simp only[Zng,List.eraseP_cons,c']at ih ⊢;simp[ih]
      | some j=>
        rw[hr]at ih;simp only[Zng,List.eraseP_cons,c']at ih ⊢;refine⟨by omega,?_⟩;rw[show j-i=(j- (i+1))+1 by omega,List.eraseIdx_cons_succ];simp[ih.2]
theorem Ze6 {α β:Type}(f:α→β):∀(l:List α) (i:Nat),(l.eraseIdx i).map f=(l.map f).eraseIdx i
 | [],_=>rfl
 |_::_,0=>rfl
 |x::l,i+1=>by simp[Ze6 f l i]
theorem delS {i :Nat} (t kt et:TypeId) (m k:Operand) (b:Nat) (kk:Int) (l:List (Int×Value)) (ats:Array TypeId) (hat:ats[0]? =some t) (hg:∀rest,Zcc n c i L rest=true) (hd:(Za5 c i).dst=none) (hop:(Za5 c i).op= .call {callee:= .builtin .delete,args:= #[m,k],argTypes:=ats})
    (hx:∀rest,ZaD L rest m= .map (some b)) (hix:∀rest,ZaD L rest k= .int .i64 kk) (hm:P.underlying t=some (.map kt et)) (hk:P.underlying kt=some (.int .i64)):
    Step (ι:=Unit) P n L (Zbl b l::H) c i none (fun _=> .tuple #[]) (fun _=>Zbl b (Zng l kk)::H):=by
  refine valueS (ι:=Unit) none (fun _=> .tuple #[]) (fun _=>Zbl b (Zng l kk)::H) hg hd ?_;intro rest w _ hs;obtain⟨G,⟨⟨es,ck,hb,hst,he⟩,hF⟩⟩:=hs.head;have hf:=run_findKey (P:=P) (w:=w) hk (ZcS kk es.toList l 0 he);have hck:(Instr.checkKey es.isEmpty 10000 kt (.int .i64 kk)).run P w= .ok () w:=run_checkKey hk (by simp[IsKey]) _ _;have hle:=Zhn (k:=kk) l 0;obtain⟨es',hr,hst',he'⟩:∃es',(∀ty,(Builtin.delete_ ats ty #[.map (some b),.int .i64 kk]).run P w= .ok (.tuple #[]) {w with heap:=w.heap.setIfInBounds b (.map es' ck)})∧Stamped es' ck∧es'.toList.map ZcK=ZeB (Zng l kk):=by
    have hli:∀(l:List (Int×Value)) (i:Nat),(lkI l kk i).isSome=(lkE l kk).isSome:=by
      intro l;induction l with
      |nil=>intro i;rfl
      |cons p r ih=>intro i;simp only[lkI,lkE];split;rfl;exact ih _
    have h1:=hli l 0;cases hj:lkI l kk 0 with
    | none=>
      rw[hj]at hf hle;refine⟨es,fun ty=>?_,hst,by simp only at hle;rw[hle];exact he⟩;simp[Builtin.delete_,hat,run_underlying hm,Go.MapKept.run_getObj_map hb,hck,hf,run_setObj_map _ hb,Result.andThen]
    | some j=>
      rw[hj]at hf hle h1;obtain⟨v,hv⟩:=Option.isSome_iff_exists.1 h1.symm;rw[hv]at hf;refine⟨es.eraseIdxIfInBounds j,fun ty=>?_,stamped_erase hst j,?_⟩
      · simp[Builtin.delete_,hat,run_underlying hm,Go.MapKept.run_getObj_map hb,hck,hf,run_setObj_map _ hb,Result.andThen]
      · simp only at hle
        rw[hle.2];simp only[Nat.sub_zero,ZeB];rw[Ze6,show l.map (fun p=>(Value.int .i64 p.1,p.2))=ZeB l from rfl,←he,←Ze6];congr 1;simp[Array.eraseIdxIfInBounds];split
        · simp
        · rename_i hnl;rw[List.eraseIdx_of_length_le];simpa using hnl
  refine⟨(),{w with heap:=w.heap.setIfInBounds b (.map es' ck)},?_,?_⟩
  · unfold execOp
    simp only[hop,resolve,invoke,builtin,Sem.run_bind,Sem.run_pure,Result.andThen_ok,List.map_toArray,List.map_cons,List.map_nil,hx rest,hix rest,hr]
  · exact hs.change fun G' hG'=>⟨⟨rfl,rfl,rfl,by simp,fun b' hb' hn'=>(heap_set hb).2 b' (fun h=>hn' ((hG'.2 b').2 h))⟩,G',⟨⟨es',ck,(heap_set hb).1,hst',he'⟩,hG'.2⟩,fun _ h=> .inl h⟩
end
end Go.Proofs.YtfhkgohokbkgiaaGreatDoor.G
namespace Go.Proofs.YtfhkgohokbkgiaaGreatDoor
open Go.RowKit
def slE :Enc (Int×Int):=⟨2,by decide,fun p=> [.int .i64 p.1,.int .i64 p.2],fun _=>rfl,by intro a u hu;simp at hu;rcases hu with rfl|rfl<;>rfl⟩
theorem Zpq :(Tryz.prog.info? 230).map (fun i=>(i.zero,i.size,i.bytes))=some (some (.agg #[.int .i64 0,.int .i64 0]),2,16):=by kernel_rfl
theorem ZhI :Ety Tryz.prog slE 230 (.agg #[.int .i64 0,.int .i64 0]):=by
 obtain⟨i,hi,hz,hs,hb⟩:=info_parts Zpq;exact⟨⟨i,hi,hz,hs,by omega⟩,rfl⟩
def ZaO {α:Type}(E:Enc α)(T:TypeId)(F:Nat→Prop)(w:World)(xs:List α)(e:Ending)(w':World):Prop:=
 ∃v' F',e= .returned v'∧Row E T w' F' v' xs∧Upd F w w'∧∀b,F' b→F b∨w.heap.size≤b
theorem ins_sl_end (w:World)(F:Nat→Prop)(v:Value)(xs zs:List (Int×Int))(x:Int×Int)(hz:zs=xs++[x])(hrow:Row slE 230 w F v xs)(yb:Nat)(T':TypeId)(hyb:Blk w yb T' (slE.enc x))(hn:xs.length≤1000000000):
  Calls Tryz.prog 223 #[v,.int .i64 xs.length,.slice (some ⟨yb,0,none⟩) 1 1] w (ZaO slE 230 F w zs):=by
 obtain⟨v',w',F',hr,h1,h2,h3,_⟩:=Zb2 (ty:=277) Tryz.underlying277 ZhI hrow (Rd.one hyb) (by simp;omega);have hpost:ZaO slE 230 F w zs (.returned v') w':=⟨v',F',rfl,by rw[hz];exact h1,h2,h3⟩
 have hp:=Lib.hid hpost;have hrr:=Lib.hid hr;clear hr h1 h2 h3 hpost hz;rcases hrow with⟨rfl,rfl,rfl⟩|⟨b,o,c,cur,rfl,rfl,hb,hc1,hc2,hc3,hcur⟩
 ·go_enter Tryz.func223,Tryz.ntmps223
  go_wp2_with (at_builtin;refine ZaT ⟨rfl,rfl,rfl,rfl⟩ hrr.out ?_)
  go_ret
  exact hp.out
 ·generalize xs.length=n at*
  clear hb hc3 hcur;have hc:(n:Int)≤(c:Int):=by omega
  go_enter Tryz.func223,Tryz.ntmps223
  go_wp2_with (at_builtin;refine ZaT ⟨rfl,rfl,rfl,rfl⟩ hrr.out ?_)
  all_goals (go_ret;exact hp.out)
theorem ZhA (w :World) (b o c n:Nat) (cur:Array Value) (xs zs:List (Int×Int)) (x:Int×Int) (i:Nat) (hz:zs=xs.take i++x::xs.drop i) (hx:xs.length=n) (hb:w.heap[b]? =some (.cells cur 230 (0,0))) (hc2:c≤maxLen) (hc3:o+c*2≤cur.size) (hcur:(cur.toList.drop o).take (n*2)=slE.flat xs)
    (yb:Nat) (T':TypeId) (hyb:Blk w yb T' (slE.enc x)) (hyF:yb≠b) (hi:i<n) (hroom:n+1≤c) (hn:n≤1000000000):
    Calls Tryz.prog 223 #[.slice (some ⟨b,o,none⟩) n c,.int .i64 i,.slice (some ⟨yb,0,none⟩) 1 1] w (ZaO slE 230 (ZbN b) w zs):=by
  have hov:∀(o2 l2 c2:Nat),(callFunc 237 #[.slice (some ⟨yb,0,none⟩) 1 1,.slice (some ⟨b,o2,none⟩) l2 c2]).run Tryz.prog w= .ok (.value (.bool false)) w:=fun o2 l2 c2=>by
    rw[run_callFunc_extern Tryz.func237 Kr Kr Kr (e:=Extern.SlicesOverlaps.overlaps #[277,277] #[4]) Kr,Zc9 Tryz.underlying277 (Zb3 ZhI) hyb hb hyF (by omega)];rfl
  have hne:((i:Int)==(n:Int))=false:=by simp;omega
  have hg:decide ((c:Int)< (n:Int)+1)=false:=by simp;omega
  have hw0:IntKind.i64.wrap ((n:Int)+1)=(n:Int)+1:=by rw[IntKind.wrap_i64];omega
  have hw1:IntKind.i64.wrap ((i:Int)+1)=(i:Int)+1:=by rw[IntKind.wrap_i64];omega
  have hb1:(0:Int)≤(i:Int)+1:=by omega
  have htn:((i:Int)+1).toNat=i+1:=by omega
  have hb2:¬(c=i+1):=by omega
  have hb3:(i:Int)≤(n:Int)+1:=by omega
  have hb4:¬(c=i):=by omega
  have hb5:i≤n:=by omega
  have hlen:cur.toList.length=cur.size:=by simp
  have hcp1:=fun dc sc=>Zbu (P:=Tryz.prog) (w:=w.drew) (dT:=277) (sT:=277) (ty:=3) Tryz.underlying277 (Zb3 ZhI) (b:=b) (o:=o+(i+1)*2) (dl:=n-i) (dc:=dc) (sl:=n+1-i) (sc:=sc) hb (ao:=some ⟨b,o+i*2,none⟩) (cs:=slE.flat (xs.drop i))
    (m:=n-i) (by show min _ _=_;omega) (by rw[slE.flat_length,List.length_drop,hx]) (by intro h;cases h)
    (by
      intro a ha j u hu;cases ha;rw[Addr.add_lit,cell_of_row w.drew b _ cur 230 (0,0) hb];rw[←slE.flat_drop,←hcur]at hu;rw[List.getElem?_drop,List.getElem?_take]at hu;split at hu
      · rw[List.getElem?_drop]at hu
        rw[←Array.getElem?_toList,←hu];show _=cur.toList[o+(i*2+j)]?;congr 1;omega
      · cases hu)
    (slE.flat_one' _) (by rw[slE.flat_length,List.length_drop,hx];show _+(n-i)*2≤_;omega)
  obtain⟨cur1,hcur1⟩:∃cur1,cur1=(cur.toList.take (o+(i+1)*2)++slE.flat (xs.drop i)++cur.toList.drop (o+(i+1)*2+(slE.flat (xs.drop i)).length)).toArray:=⟨_,rfl⟩
  rw[←hcur1]at hcp1;have hfl1:(slE.flat (xs.take i)).length=i*2:=by rw[slE.flat_length,List.length_take,hx,Nat.min_eq_left (by omega)];rfl
  have hfl2:(slE.flat (xs.drop i)).length=(n-i)*2:=by rw[slE.flat_length,List.length_drop,hx];rfl
  have hsplit:(cur.toList.drop o).take (i*2+(n-i)*2)=slE.flat (xs.take i)++slE.flat (xs.drop i):=by
    rw[←Enc.flat_append,List.take_append_drop,←hcur];congr 1;omega
  have hsh:=ZfI cur.toList (slE.flat (xs.take i)) (slE.flat (xs.drop i)) (slE.enc x) o (i*2) ((n-i)*2) 2 hfl1 hfl2 rfl (by rw[hlen];omega) hsplit;have eo:o+i*2+2=o+(i+1)*2:=by omega
  simp only[eo]at hsh;rw[←hfl2]at hsh;have hc1l:cur1.toList=cur.toList.take (o+(i+1)*2)++slE.flat (xs.drop i)++cur.toList.drop (o+(i+1)*2+(slE.flat (xs.drop i)).length):=by rw[hcur1]
  rw[←hc1l]at hsh;have hb1':(w.drew.setRow b cur1).heap[b]? =some (.cells cur1 230 (0,0)):=setRow_heap w.drew b cur cur1 _ _ hb;have hyb1:Blk (w.drew.setRow b cur1) yb T' (slE.enc x):=(setRow_other w.drew b yb cur1 hyF).trans hyb;have hsz1:cur1.size=cur.size:=by rw[hcur1];simp only[List.size_toArray,List.length_append,List.length_take,List.length_drop,hlen,hfl2];omega
  obtain⟨W1,hW1⟩:∃W1,W1=w.drew.setRow b cur1:=⟨_,rfl⟩
  rw[←hW1]at hcp1 hb1' hyb1;have hcp2:=fun dc=>Zbu (P:=Tryz.prog) (w:=W1) (dT:=277) (sT:=277) (ty:=3) Tryz.underlying277 (Zb3 ZhI) (b:=b) (o:=o+i*2) (dl:=n+1-i) (dc:=dc) (sl:=1) (sc:=1) hb1' (ao:=some ⟨yb,0,none⟩) (cs:=slE.enc x) (m:=1)
    (by show min _ _=_;omega) rfl (by intro h;cases h)
    (by intro a ha j u hu;cases ha;rw[Addr.add_lit,Nat.zero_add,hyb1.cell];exact hu) (slE.one _) (by rw[hsz1];show _+2≤_;omega)
  obtain⟨cur2,hcur2⟩:∃cur2,cur2=(cur1.toList.take (o+i*2)++slE.enc x++cur1.toList.drop (o+i*2+(slE.enc x).length)).toArray:=⟨_,rfl⟩
  rw[←hcur2]at hcp2;have hc2l:cur2.toList=cur1.toList.take (o+i*2)++slE.enc x++cur1.toList.drop (o+(i+1)*2):=by rw[hcur2,show o+i*2+(slE.enc x).length=o+(i+1)*2 by show _+2=_;omega]
  rw[←hc2l]at hsh;have hpost:ZaO slE 230 (ZbN b) w zs (.returned (.slice (some ⟨b,o,none⟩) (n+1) c)) (W1.setRow b cur2):=by
    refine⟨_,ZbN b,rfl,.inr ⟨b,o,c,cur2,?_,rfl,setRow_heap W1 b cur1 cur2 _ _ hb1',?_,hc2,?_,?_⟩,?_,fun b hb=> .inl hb⟩
    · congr 1;rw[hz];simp;omega
    · rw[hz];simp;omega
    · have:=hsh.1;simp only[Array.length_toList]at this;rw[this];exact hc3
    · rw[hz]
      have:=hsh.2;rw[Enc.flat_append,Enc.flat_cons,←List.append_assoc,←this];congr 1;simp;show(_+(_+1))*2=_;omega
    · rw[hW1]
      exact⟨rfl,rfl,rfl,by simp[World.setRow],fun k _ hk=>(setRow_other _ b k _ (fun e=>hk e)).trans (setRow_other w.drew b k _ (fun e=>hk e))⟩
  subst hW1;have hp:=Lib.hid hpost;have HC1:=Lib.hid hcp1;have HC2:=Lib.hid hcp2;clear hpost hcp1 hcp2 hsh hc1l hc2l hcur1 hcur2 hsplit hfl1 hfl2 hb1' hyb1 hcur hb hsz1 hz hx hlen eo hc3 hyb
  go_enter Tryz.func223,Tryz.ntmps223
  go_wp2_with (simp only[hov])
  go_region_law (refine Zcu rfl _ _ _ _ rfl (by simp[Act.eval,Act.put];rfl) (by simp[Act.eval,Act.put];rfl) (HC1.out _ _) ?_)
  have hcp2:=HC2.out
  go_wp2
  go_ret
  exact hp.out
theorem Zi4 (w:World)(b o c n:Nat)(cur:Array Value)(xs zs:List (Int×Int))(x:Int×Int)(i:Nat)(hz:zs=xs.take i++x::xs.drop i)(hx:xs.length=n)(hb:w.heap[b]? =some (.cells cur 230 (0,0)))(hc1:n≤c)(hc3:o+c*2≤cur.size)(hcur:(cur.toList.drop o).take (n*2)=slE.flat xs)
  (yb:Nat) (T':TypeId) (hyb:Blk w yb T' (slE.enc x)) (hi:i<n) (hroom:c<n+1) (hn:n≤1000000000):
  Calls Tryz.prog 223 #[.slice (some ⟨b,o,none⟩) n c,.int .i64 i,.slice (some ⟨yb,0,none⟩) 1 1] w (ZaO slE 230 (ZbN b) w zs):=by
 have hne:((i:Int)==(n:Int))=false:=by simp;omega
 have hg:decide ((c:Int)< (n:Int)+1)=true:=by simp;omega
 have hfl1:(slE.flat (xs.take i)).length=i*2:=by rw[slE.flat_length,List.length_take,hx,Nat.min_eq_left (by omega)];rfl
 have hfl2:(slE.flat (xs.drop i)).length=(n-i)*2:=by rw[slE.flat_length,List.length_drop,hx];rfl
 have hsrc:∀k j u,(slE.flat (xs.drop k))[j]? =some u→w.cell? ⟨b,o+k*2+j,none⟩=some u:=by
  intro k j u hu;rw[cell_of_row w b _ cur 230 (0,0) hb];rw[←slE.flat_drop,←hcur]at hu;rw[List.getElem?_drop,List.getElem?_take]at hu;split at hu
  ·rw[List.getElem?_drop]at hu
   rw[←Array.getElem?_toList,←hu];show _=cur.toList[o+(k*2+j)]?;congr 1;omega
  ·cases hu
 obtain⟨cap,hcap1,hcap2,hr⟩:=ZcX (P:=Tryz.prog) (w:=w) (ty:=277) (tn:=3) Tryz.underlying277 Tryz.underlying3 ZhI (xs:=xs.take i) (ao:=some ⟨b,o,none⟩) (n:=i) (c:=c) (l:=n+1-i) (by rw[List.length_take,hx];omega)
  (by
   intro a ha j u hu;cases ha;have h0:=hsrc 0 j u;rw[Nat.zero_mul,Nat.add_zero,List.drop_zero]at h0;rw[Addr.add_lit];refine h0 ?_;rw[←slE.flat_take,List.getElem?_take]at hu;split at hu
   ·exact hu
   ·cases hu)
  (by intro h;cases h) (by omega) (by omega) (by omega) (L:=(n:Int)+1- (i:Int)) (by omega)
 have e1:i+(n+1-i)=n+1:=by omega
 rw[e1]at hr hcap1;obtain⟨cur0,hcur0⟩:∃cur0,cur0=(slE.flat (xs.take i)).toArray++Builtin.zeroCells (Value.agg #[.int .i64 0,.int .i64 0]).cells (n+1-i)++Builtin.zeroCells (Value.agg #[.int .i64 0,.int .i64 0]).cells (cap- (n+1)):=⟨_,rfl⟩
 rw[←hcur0]at hr;have hs0:cur0.size=cap*2:=by
  rw[hcur0];simp only[Array.size_append,List.size_toArray,size_zeroCells,hfl1];show _+_*2+_*2=_;omega
 have ht0:cur0.toList.take (i*2)=slE.flat (xs.take i):=by
  rw[hcur0];simp only[Array.toList_append,List.append_assoc];exact List.take_left' hfl1
 obtain⟨W0,hW0⟩:∃W0,W0=w.drew.alloc (.cells cur0 230):=⟨_,rfl⟩
 have hb0:W0.heap[w.heap.size]? =some (.cells cur0 230 (0,0)):=by rw[hW0];exact heap_alloc_new w.drew _
 have hold:∀k,k<w.heap.size→W0.heap[k]? =w.heap[k]? :=by intro k hk;rw[hW0];exact Below.heap_alloc w.drew _ k hk
 have hcp1:=fun dc=>Zbu (P:=Tryz.prog) (w:=W0) (dT:=277) (sT:=277) (ty:=3) Tryz.underlying277 (Zb3 ZhI) (b:=w.heap.size) (o:=i*2) (dl:=n+1-i) (dc:=dc) (sl:=1) (sc:=1) hb0 (ao:=some ⟨yb,0,none⟩) (cs:=slE.enc x) (m:=1)
  (by show min _ _=_;omega) rfl (by intro h;cases h)
  (by intro a ha j u hu;cases ha;rw[Addr.add_lit,Nat.zero_add,World.cell?_of_block (w:=w) (hold _ hyb.lt),hyb.cell];exact hu) (slE.one _) (by rw[hs0];show _+2≤_;omega)
 obtain⟨cur1,hcur1⟩:∃cur1,cur1=(cur0.toList.take (i*2)++slE.enc x++cur0.toList.drop (i*2+(slE.enc x).length)).toArray:=⟨_,rfl⟩
 rw[←hcur1]at hcp1;have hs1:cur1.size=cap*2:=by
  rw[hcur1];simp only[List.size_toArray,List.length_append,List.length_take,List.length_drop,Array.length_toList,hs0];show _+2+(_- (_+2))=_;omega
 have ht1:cur1.toList.take (i*2+2)=slE.flat (xs.take i)++slE.enc x:=by
  rw[hcur1];simp only[];rw[ht0];exact List.take_left' (by rw[List.length_append,hfl1];rfl)
 have hb1:(W0.setRow w.heap.size cur1).heap[w.heap.size]? =some (.cells cur1 230 (0,0)):=setRow_heap W0 _ cur0 cur1 _ _ hb0;have hlb:=lt_of_block hb;have hold1:∀k,k<w.heap.size→(W0.setRow w.heap.size cur1).drew.heap[k]? =w.heap[k]? :=by intro k hk;exact(setRow_other W0 _ k cur1 (by omega)).trans (hold k hk)
 have hcp2:=fun dc sc=>Zbu (P:=Tryz.prog) (w:=(W0.setRow w.heap.size cur1).drew) (dT:=277) (sT:=277) (ty:=3) Tryz.underlying277 (Zb3 ZhI) (b:=w.heap.size) (o:=(i+1)*2) (dl:=n-i) (dc:=dc) (sl:=n-i) (sc:=sc) hb1 (ao:=some ⟨b,o+i*2,none⟩) (cs:=slE.flat (xs.drop i)) (m:=n-i)
  (by show min _ _=_;omega) hfl2 (by intro h;cases h)
  (by intro a ha j u hu;cases ha;rw[Addr.add_lit,World.cell?_of_block (w:=w) (hold1 _ hlb)];exact hsrc i j u hu) (slE.flat_one' _) (by rw[hs1,hfl2];omega)
 obtain⟨cur2,hcur2⟩:∃cur2,cur2=(cur1.toList.take ((i+1)*2)++slE.flat (xs.drop i)++cur1.toList.drop ((i+1)*2+(slE.flat (xs.drop i)).length)).toArray:=⟨_,rfl⟩
 rw[←hcur2]at hcp2;have hpost:ZaO slE 230 (ZbN b) w zs (.returned (.slice (some ⟨w.heap.size,0,none⟩) (n+1) cap)) ((W0.setRow w.heap.size cur1).drew.setRow w.heap.size cur2):=by
  refine⟨_,ZbN w.heap.size,rfl,.inr ⟨w.heap.size,0,cap,cur2,?_,rfl,setRow_heap _ _ cur1 cur2 _ _ hb1,?_,hcap2,?_,?_⟩,⟨?_,?_,?_,?_,?_⟩,fun b hb=> .inr (by cases hb;exact Nat.le_refl _)⟩
  ·congr 1;rw[hz];simp;omega
  ·rw[hz];simp;omega
  ·rw[hcur2];simp only[List.size_toArray,List.length_append,List.length_take,List.length_drop,Array.length_toList,hs1,hfl2]
   show 0+cap*2≤_;omega
  ·rw[hz,List.drop_zero]
   have e:(i+1)*2=i*2+2:=by omega
   rw[hcur2];simp only[];rw[e,ht1,Enc.flat_append,Enc.flat_cons,←List.append_assoc];exact List.take_left' (by simp only[List.length_append,hfl1,hfl2,List.length_take,List.length_cons,List.length_drop,hx];show _+2+_=(_+(_+1))*2;omega)
  ·rw[hW0];rfl
  ·rw[hW0];rfl
  ·rw[hW0];rfl
  ·rw[hW0];simp[World.setRow]
  ·intro k hk _;exact(setRow_other _ _ k cur2 (by omega)).trans (hold1 k hk)
 obtain rfl:W0=(w.alloc (.cells cur0 230)).drew:=hW0;have hp:=Lib.hid hpost;have HR:=Lib.hid hr;have HC1:=Lib.hid hcp1;have HC2:=Lib.hid hcp2;have hb2:¬(cap=i+1):=by omega
 have hb4:¬(cap=i):=by omega
 have hb5:i≤n:=by omega
 have hb6:¬(c=i):=by omega
 have hb7:i≤c:=by omega
 have hw0:IntKind.i64.wrap ((n:Int)+1)=(n:Int)+1:=by rw[IntKind.wrap_i64];omega
 have hw1:IntKind.i64.wrap ((i:Int)+1)=(i:Int)+1:=by rw[IntKind.wrap_i64];omega
 have hb1:(0:Int)≤(i:Int)+1:=by omega
 have htn:((i:Int)+1).toNat=i+1:=by omega
 clear hpost hr hcp1 hcp2 hcur0 hcur1 hcur2 hfl1 hfl2 hb0 hs0 hs1 ht0 ht1 hold hold1 hsrc hcur hb hz hx e1 hc3 hyb
 go_enter Tryz.func223,Tryz.ntmps223
 have hcp1:=HC1.out
 go_wp2_with (at_builtin;refine ZaT ⟨rfl,rfl,rfl,rfl⟩ HR.out ?_)
 go_region_law (refine Zcu rfl _ _ _ _ rfl (by simp[Act.eval,Act.put];rfl) (by simp[Act.eval,Act.put];rfl) (HC2.out _ _) ?_)
 go_wp2
 go_ret
 exact hp.out
theorem ZrW (w:World)(F:Nat→Prop)(v:Value)(xs:List (Int×Int))(x:Int×Int)(hrow:Row slE 230 w F v xs)(yb:Nat)(T':TypeId)(hyb:Blk w yb T' (slE.enc x))(hyF:¬F yb)(i:Nat)(hi:i≤xs.length)(hn:xs.length≤1000000000):
  Calls Tryz.prog 223 #[v,.int .i64 i,.slice (some ⟨yb,0,none⟩) 1 1] w (ZaO slE 230 F w (xs.take i++x::xs.drop i)):=by
 by_cases hin:i=xs.length
 ·subst hin
  exact ins_sl_end w F v xs _ x (by simp) hrow yb T' hyb hn
 ·rcases hrow with⟨rfl,rfl,rfl⟩|⟨b,o,c,cur,rfl,rfl,hb,hc1,hc2,hc3,hcur⟩
  ·simp at hi hin;omega
  ·by_cases hroom:xs.length+1≤c
   ·exact ZhA w b o c _ cur xs _ x i rfl rfl hb hc2 hc3 hcur yb T' hyb hyF (by omega) hroom hn
   ·exact Zi4 w b o c _ cur xs _ x i rfl rfl hb hc1 hc3 hcur yb T' hyb (by omega) (by omega) hn
theorem Zf4 (n:Nat):∀u∈(Builtin.zeroCells (Value.agg #[.int .i64 0,.int .i64 0]).cells n).toList,u.oneCell'=true:=by
 intro u hu;simp only[Builtin.zeroCells,Value.cells,List.size_toArray,List.length_cons,List.length_nil,Array.toList_map,List.mem_map]at hu;obtain⟨k,_,rfl⟩:=hu;rcases Nat.mod_two_eq_zero_or_one k with h|h<;>simp[h,Value.oneCell']
theorem Znb (w :World) (b o c n:Nat) (cur:Array Value) (xs zs:List (Int×Int)) (i:Nat) (hz:zs=xs.take i++xs.drop (i+1)) (hx:xs.length=n) (hb:w.heap[b]? =some (.cells cur 230 (0,0))) (hc1:n≤c) (hc2:c≤maxLen) (hc3:o+c*2≤cur.size) (hcur:(cur.toList.drop o).take (n*2)=slE.flat xs)
    (hi:i<n) (hn:n≤1000000000):
    Calls Tryz.prog 192 #[.slice (some ⟨b,o,none⟩) n c,.int .i64 i,.int .i64 (i+1)] w (ZaO slE 230 (ZbN b) w zs):=by
  have hne:((i:Int)==(i:Int)+1)=false:=by simp;omega
  have hlen:cur.toList.length=cur.size:=by simp
  have hrow:Row slE 230 w.drew (ZbN b) (.slice (some ⟨b,o,none⟩) (xs.take i).length c) (xs.take i):=by
    refine .inr ⟨b,o,c,cur,rfl,rfl,hb,by simp;omega,hc2,hc3,?_⟩;rw[List.length_take,hx,Nat.min_eq_left (by omega)];rw[←slE.flat_take,←hcur,List.take_take];congr 1;show i*2=min (i*2) (n*2);omega
  have hil:(xs.take i).length=i:=by rw[List.length_take,hx];omega
  have hdl:(xs.drop (i+1)).length=n- (i+1):=by rw[List.length_drop,hx]
  have hcell:∀j u,(slE.flat (xs.drop (i+1)))[j]? =some u→w.drew.cell? ⟨b,o+(i+1)*2+j,none⟩=some u:=by
    intro j u hu;rw[cell_of_row w.drew b _ cur 230 (0,0) hb];rw[←slE.flat_drop,←hcur]at hu;rw[List.getElem?_drop,List.getElem?_take]at hu;split at hu
    · rw[List.getElem?_drop]at hu
      rw[←Array.getElem?_toList,←hu];show _=cur.toList[o+((i+1)*2+j)]?;congr 1;omega
    · cases hu
  have hap:∀(X:Option Addr) (m dc:Nat),m=n- (i+1)→(¬c=i+1→X=some ⟨b,o+(i+1)*2,none⟩∧dc=c- (i+1))→(c=i+1→X=some ⟨b,o,none⟩∧dc=0)→∃cur1,cur1.size=cur.size∧(cur1.toList.drop o).take ((n-1)*2)=slE.flat zs∧
      (Builtin.append_ #[277,277] 277 #[.slice (some ⟨b,o,none⟩) i c,.slice X m dc]).run Tryz.prog w.drew= .ok (.slice (some ⟨b,o,none⟩) (n-1) c) (w.drew.setRow b cur1):=by
    intro X m dc hm hX1 hX2;subst hm;obtain⟨ii,hii,hzz,hss,hbb⟩:=info_parts Zpq;have hfl:(slE.flat (xs.drop (i+1))).length=(n- (i+1))*2:=by rw[slE.flat_length,hdl];rfl
    have hfl0:(slE.flat (xs.take i)).length=i*2:=by rw[slE.flat_length,hil];rfl
    have hf:(Builtin.firstCells 2 (n- (i+1)) (.slice X (n- (i+1)) dc)).run Tryz.prog w.drew= .ok (slE.flat (xs.drop (i+1))).toArray w.drew:=by
      by_cases hcc:c=i+1
      · obtain⟨rfl,rfl⟩:=hX2 hcc
        have e0:n- (i+1)=0:=by omega
        rw[e0]at hfl ⊢;have:slE.flat (xs.drop (i+1))=[]:=List.eq_nil_of_length_eq_zero (by simpa using hfl);rw[this];exact run_firstCells_some (P:=Tryz.prog) w.drew 2 0 _ _ _ [] rfl (by intro j u h;simp at h)
      · obtain⟨rfl,rfl⟩:=hX1 hcc
        exact run_firstCells_some (P:=Tryz.prog) w.drew 2 _ _ _ _ _ hfl (fun j u hu=>by rw[Addr.add_lit];exact hcell j u hu)
    have hst:=run_storeCells_at Tryz.prog b (o+i*2) 230 (slE.flat (xs.drop (i+1))) 0 cur w.drew hb (by rw[hfl];omega) (slE.flat_one' _);simp only[Nat.add_zero]at hst;refine⟨(cur.toList.take (o+i*2)++slE.flat (xs.drop (i+1))++cur.toList.drop (o+i*2+(slE.flat (xs.drop (i+1))).length)).toArray,?_,?_,?_⟩
    rotate_left 2
    · have hroom:i+(n- (i+1))≤c:=by omega
      have e1:i+(n- (i+1))=n-1:=by omega
      simp[Builtin.append_,run_underlying Tryz.underlying277,sizeOf,typeInfo,hii,hss,Builtin.lenOf,hf,Addr.add_lit,hst,e1];intro h;omega
    · simp only[List.size_toArray,List.length_append,List.length_take,List.length_drop,hlen,hfl];omega
    · have htm:=Zdj cur.toList o (i*2) (slE.flat (xs.drop (i+1))).length (slE.flat (xs.drop (i+1))) rfl (by rw[hlen,hfl];omega)
      have e2:(n-1)*2=i*2+(slE.flat (xs.drop (i+1))).length:=by rw[hfl];omega
      rw[e2];show List.take _ (List.drop o (List.take (o+i*2) cur.toList++slE.flat (xs.drop (i+1))++List.drop (o+i*2+(slE.flat (xs.drop (i+1))).length) cur.toList))=_;rw[htm,hz,Enc.flat_append];congr 1;rw[←slE.flat_take,←hcur,List.take_take];congr 1;show i*2=min (i*2) (n*2);omega
  have hclr:∀cur1:Array Value,cur1.size=cur.size→(cur1.toList.drop o).take ((n-1)*2)=slE.flat zs→∃cur2,(∀dc,(Builtin.clear_ #[277] 0 #[.slice (some ⟨b,o+(n-1)*2,none⟩) 1 dc]).run Tryz.prog (w.drew.setRow b cur1)= .ok (.tuple #[]) ((w.drew.setRow b cur1).setRow b cur2))∧
      ZaO slE 230 (ZbN b) w zs (.returned (.slice (some ⟨b,o,none⟩) (n-1) c)) ((w.drew.setRow b cur1).setRow b cur2):=by
    intro cur1 hs1 ht1;have hb1:(w.drew.setRow b cur1).heap[b]? =some (.cells cur1 230 (0,0)):=setRow_heap w.drew b cur cur1 _ _ hb;have hl1:cur1.toList.length=cur.size:=by simp[hs1]
    have hzl:(Builtin.zeroCells (Value.agg #[.int .i64 0,.int .i64 0]).cells 1).toList.length=2:=by rw[Array.length_toList,size_zeroCells];rfl
    refine⟨_,fun dc=>ZbK (P:=Tryz.prog) Tryz.underlying277 ZhI hb1 (by omega) (by rw[hs1];show _+1*2≤_;omega) (Zf4 1),?_⟩;refine⟨_,ZbN b,rfl,.inr ⟨b,o,c,_,?_,rfl,setRow_heap _ b cur1 _ _ _ hb1,?_,hc2,?_,?_⟩,⟨rfl,rfl,rfl,by simp[World.setRow],fun k _ hk=>(setRow_other _ b k _ (fun e=>hk e)).trans (setRow_other w.drew b k _ (fun e=>hk e))⟩,fun b hb=> .inl hb⟩
    · congr 1;rw[hz];simp;omega
    · rw[hz];simp;omega
    · simp only[List.size_toArray,List.length_append,List.length_take,List.length_drop,hl1,hzl]
      show o+c*2≤_+(_- (_+1*2));omega
    · have hzn:zs.length=n-1:=by rw[hz];simp;omega
      rw[hzn,←ht1];show List.take ((n-1)*2) (List.drop o (List.take (o+(n-1)*2) cur1.toList++(Builtin.zeroCells (Value.agg #[.int .i64 0,.int .i64 0]).cells 1).toList++List.drop (o+(n-1)*2+1*2) cur1.toList))=_;rw[List.append_assoc,List.drop_append,List.length_take,hl1,show o-min (o+(n-1)*2) cur.size=0 by omega,List.drop_zero,List.drop_take];have e3:o+(n-1)*2-o=(n-1)*2:=by omega
      rw[e3];exact List.take_left' (by simp only[List.length_take,List.length_drop,hl1];omega)
  have HAP:=Lib.hid hap;have HCL:=Lib.hid hclr;clear hap hclr hrow hil hdl hcell hcur hb hx hz hlen hc3;have hb2:¬(c=i):=by omega
  have hb3:¬(c=n-1):=by omega
  have hb4:i+1≤n:=by omega
  have hb5:(0:Int)≤(i:Int)+1:=by omega
  have hw1:IntKind.i64.wrap ((i:Int)+1)=(i:Int)+1:=by rw[IntKind.wrap_i64];omega
  have htn:((i:Int)+1).toNat=i+1:=by omega
  have hb6:n- (n-1)=1:=by omega
  have hb7:i≤n:=by omega
  have hb8:n-1≤n:=by omega
  have hb9:i≤c:=by omega
  have hb11:(i:Int)+1≤(n:Int):=by omega
  have hb10:(i:Int)≤(i:Int)+1:=by omega
  by_cases hcc:c=i+1
  · subst hcc
    obtain⟨cur1,hs1,ht1,hr1⟩:=HAP.out (some ⟨b,o,none⟩) 0 0 (by omega) (by intro h;exact absurd rfl h) (by intro _;exact⟨rfl,rfl⟩);obtain⟨cur2,hr2,hp0⟩:=HCL.out cur1 hs1 ht1;have hp:=Lib.hid hp0;have HR:=Lib.hid hr1;clear hs1 ht1 hp0 hr1 HAP HCL
    go_enter Tryz.func192,Tryz.ntmps192
    go_wp2
    go_region_law (refine ZaQ rfl _ _ _ _ rfl (by simp[Act.eval,Act.put]) (by simp[Act.eval,Act.put]) HR.out ?_)
    go_wp2
    go_ret
    exact hp.out
  · obtain⟨cur1,hs1,ht1,hr1⟩:=HAP.out (some ⟨b,o+(i+1)*2,none⟩) (n- (i+1)) (c- (i+1)) rfl (by intro _;exact⟨rfl,rfl⟩) (by intro h;exact absurd h hcc)
    obtain⟨cur2,hr2,hp0⟩:=HCL.out cur1 hs1 ht1;have hp:=Lib.hid hp0;have HR:=Lib.hid hr1;clear hs1 ht1 hp0 hr1 HAP HCL
    go_enter Tryz.func192,Tryz.ntmps192
    go_wp2
    go_region_law (refine ZaQ rfl _ _ _ _ rfl (by simp[Act.eval,Act.put]) (by simp[Act.eval,Act.put]) HR.out ?_)
    go_wp2
    go_ret
    exact hp.out
theorem Zsa (w:World)(F:Nat→Prop)(v:Value)(xs:List (Int×Int))(hrow:Row slE 230 w F v xs)(i:Nat)(hi:i<xs.length)(hn:xs.length≤1000000000):
  Calls Tryz.prog 192 #[v,.int .i64 i,.int .i64 (i+1)] w (ZaO slE 230 F w (xs.take i++xs.drop (i+1))):=by
 rcases hrow with⟨rfl,rfl,rfl⟩|⟨b,o,c,cur,rfl,rfl,hb,hc1,hc2,hc3,hcur⟩
 ·simp at hi
 ·exact Znb w b o c _ cur xs _ i rfl rfl hb hc1 hc2 hc3 hcur hi hn
end Go.Proofs.YtfhkgohokbkgiaaGreatDoor
namespace Go.Proofs.YtfhkgohokbkgiaaGreatDoor
open Go.RowKit G Tryz
def KnI (H:List SP)(A:Option Addr)(l:List Int):Prop:=∀w,Sat w H→∀j x,l[j]? =some x→∃a,A=some a∧w.cell? (a.add j)=some (.int .i64 x)
theorem KnI.isSome {H:List SP}{A:Option Addr}{l:List Int}(h:KnI H A l)(hl:l≠ []):∀w,Sat w H→∃b o,A=some ⟨b,o,none⟩:=by
  intro w hs;cases l with
  |nil=>exact absurd rfl hl
  | cons x r=>
    obtain⟨⟨b,o,s⟩,rfl,hc⟩:=h w hs 0 x rfl;cases s with
    |none=>exact⟨b,o,rfl⟩
    |some z=>simp[Addr.add,World.cell?]at hc;split at hc<;>simp at hc
theorem KnI.tail {H:List SP}{b o c:Nat}{x:Int}{l:List Int}(h:KnI H (some ⟨b,o,none⟩) (x::l))(hc:l.length+1≤c):KnI H (ZbC (some ⟨b,o,none⟩) c 1 1) l:=by
 unfold ZbC;intro w hs j y hj;have hl:0<l.length:=by have:=(gSs hj).1;omega
 rw[if_neg (by omega)];obtain⟨a,ha,hcell⟩:=h w hs (j+1) y (by simpa using hj);cases ha;refine⟨⟨b,o+1*1,none⟩,by simp[Addr.add_lit],?_⟩;rw[Addr.add_lit]at hcell ⊢;rw[show o+1*1+j=o+(j+1)by omega];exact hcell
end Go.Proofs.YtfhkgohokbkgiaaGreatDoor
namespace Go.Proofs.YtfhkgohokbkgiaaGreatDoor
open Go.RowKit Go.ChangeShapes Go.WideShapes
def kE (k:IntKind):Enc Int:=⟨1,by decide,fun n=> [.int k n],fun _=>rfl,by intro a u hu;simp at hu;subst hu;rfl⟩
def boE :Enc Bool:=⟨1,by decide,fun n=> [.bool n],fun _=>rfl,by intro a u hu;simp at hu;subst hu;rfl⟩
structure SV (α:Type) where
 a:Option Addr
 c:Nat
 l:List α
def SV.v {α:Type}(s:SV α):Value:= .slice s.a s.l.length s.c
def svE (α:Type):Enc (SV α):=⟨1,by decide,fun s=> [s.v],fun _=>rfl,by intro a u hu;simp at hu;subst hu;rfl⟩
def prE {α β:Type}(E:Enc α)(F:Enc β):Enc (α×β):=
 ⟨E.k+F.k,by have:=E.kpos;omega,fun p=>E.enc p.1++F.enc p.2,by intro p;simp[E.len,F.len],by intro p u hu;rcases List.mem_append.1 hu with h|h;exact E.one _ u h;exact F.one _ u h⟩
def Opens {α:Type}(P:Program)(w:World)(e:TypeId)(E:Enc α)(D:α→Prop):Prop:=
 P.cellsOf e=E.k∧∀(H:Type) (enc:TypeId×Value→H) (base:Nat) (spare:Nat→Bool) (held:Bool) (fuel:Nat) (cs:List Value) (x:DataW H×List MemPlace),DataW.trod enc P w base spare held fuel e cs=some x→∃a,cs=E.enc a∧D a
variable {α β:Type}{P:Program}{w:World}
theorem Opens.int {e:TypeId}{k:IntKind}(he:P.underlying e=some (.int k))(hc:P.cellsOf e=1):Opens P w e (kE k) (fun n=>(Lit.int k n).wf=true):=
 ⟨hc,fun H enc base spare held fuel cs x h=>by obtain⟨n,rfl,_,hw⟩:=DataW.trod_int he h;exact⟨n,rfl,hw⟩⟩
theorem Opens.bool {e:TypeId}(he:P.underlying e=some .bool)(hc:P.cellsOf e=1):Opens P w e boE (fun _=>True):=
 ⟨hc,fun H enc base spare held fuel cs x h=>by obtain⟨n,rfl,_⟩:=DataW.trod_bool he h;exact⟨n,rfl,trivial⟩⟩
theorem Opens.mono {e:TypeId}{E:Enc α}{D D':α→Prop}(h:Opens P w e E D)(hd:∀a,D a→D' a):Opens P w e E D':=
 ⟨h.1,fun H enc base spare held fuel cs x hx=>by obtain⟨a,e,ha⟩:=h.2 H enc base spare held fuel cs x hx;exact⟨a,e,hd a ha⟩⟩
theorem Opens.map {e:TypeId}{E:Enc α}{F:Enc β}{D:α→Prop}(h:Opens P w e E D)(f:α→β)(hf:∀a,E.enc a=F.enc (f a))(hk:E.k=F.k):Opens P w e F (fun b=>∃a,b=f a∧D a):=
 ⟨h.1.trans hk,fun H enc base spare held fuel cs x hx=>by obtain⟨a,e,ha⟩:=h.2 H enc base spare held fuel cs x hx;exact⟨f a,by rw[e,hf],a,rfl,ha⟩⟩
theorem Zle {base:Nat}{a:Addr}{n:Nat}{cs:List Value}(h:w.cells? base a n=some cs):∀j u,cs[j]? =some u→w.cell? (a.add j)=some u:=by
 obtain⟨_,hl,hc⟩:=World.cells?_some h;intro j u hu;have hj:j<n:=by rw[←hl];exact(gSs hu).1
 rw[hc j hj,hu]
theorem Znx (a:Addr)(i j:Nat):(a.add i).add j=a.add (i+j):=by
 obtain⟨b,o,s⟩:=a;by_cases hi:i=0
 ·subst hi;simp[Addr.add]
 ·by_cases hj:j=0
  ·subst hj;simp[Addr.add]
  ·simp[Addr.add,hi,hj,Nat.add_assoc]
theorem Zjf {n :Nat} {Q:Nat→α→Prop}:(∀i,i<n→∃a,Q i a)→∃l:List α,l.length=n∧∀i a,l[i]? =some a→Q i a:=by
  induction n with
  |zero=>intro _;exact⟨[],rfl,by simp⟩
  | succ n ih=>
    intro h;obtain⟨l,hl,hq⟩:=ih (fun i hi=>h i (by omega));obtain⟨a,ha⟩:=h n (by omega);refine⟨l++[a],by simp[hl],fun i b hb=>?_⟩;by_cases hi:i<n
    · rw[List.getElem?_append_left (by omega)]at hb;exact hq i b hb
    · rw[List.getElem?_append_right (by omega)]at hb
      have:i-l.length=0:=by
        have:=(gSs hb).1;simp at this;omega
      rw[this]at hb;simp at hb;subst hb;have:i=n:=by omega
      subst this;exact ha
theorem Enc.flat_at (E:Enc α):∀(xs:List α) (j:Nat) (u:Value),(E.flat xs)[j]? =some u→∃i r x,j=i*E.k+r∧xs[i]? =some x∧(E.enc x)[r]? =some u
  | [],j,u,h=>by simp[Enc.flat]at h
  | y ::xs,j,u,h=>by
    rw[Enc.flat_cons]at h;by_cases hj:j<E.k
    · rw[List.getElem?_append_left (by rw[E.len];exact hj)]at h
      exact⟨0,j,y,by omega,rfl,h⟩
    · rw[List.getElem?_append_right (by rw[E.len];omega),E.len]at h
      obtain⟨i,r,x,e,hx,hr⟩:=Enc.flat_at E xs _ u h;exact⟨i+1,r,x,by rw[Nat.add_mul];omega,by simpa using hx,hr⟩
theorem Opens.slice {t e:TypeId}{E:Enc α}{D:α→Prop}(ht:P.underlying t=some (.slice e))(hc:P.cellsOf t=1)(h:Opens P w e E D):
  Opens P w t (svE α) (fun s=>Rd E w s.v s.l∧∀x∈s.l,D x):=by
 refine⟨hc,fun H enc base spare held fuel cs x hx=>?_⟩;rcases DataW.trod_slice ht hx with⟨rfl,_⟩|⟨a,len,cap,elems,rest,n,_,rfl,_,_,h1,h2,hl,hel,_,_⟩
 ·exact⟨⟨none,0,[]⟩,rfl,⟨none,0,rfl,Nat.le_refl _,by simp[maxLen],fun _=>⟨rfl,rfl⟩,fun a ha=>by cases ha⟩,by simp⟩
 ·have each:∀i,i<len→∃x,(∃cs',w.cells? base (a.add (i*E.k)) E.k=some cs'∧cs'=E.enc x)∧D x:=by
   intro i hi;have hi':=hel i hi;rw[gEe (by omega),Option.bind_eq_some_iff,h.1]at hi';obtain⟨cs',hcs,hy⟩:=hi';obtain⟨y,e,hd⟩:=h.2 _ _ _ _ _ _ _ _ hy;exact⟨y,⟨cs',hcs,e⟩,hd⟩
  obtain⟨l,rfl,hq⟩:=Zjf each;refine⟨⟨some a,cap,l⟩,rfl,⟨some a,cap,rfl,h1,h2,fun h=>(by cases h),fun a' ha' j u hu=>?_⟩,?_⟩
  ·cases ha'
   obtain⟨i,r,x,rfl,hx,hr⟩:=E.flat_at l j u hu;obtain⟨⟨cs',hcs,rfl⟩,_⟩:=hq i x hx;have:=Zle hcs r u hr
   rwa[Znx]at this
  ·intro x hx
   obtain⟨i,hi⟩:=List.getElem?_of_mem hx;exact(hq i x hi).2
def OpensFs (P :Program) (w:World) (fs:List Field) (o:Nat) (E:Enc α) (D:α→Prop):Prop:=
  ∀ (H:Type) (enc:TypeId×Value→H) (base:Nat) (spare:Nat→Bool) (held:Bool) (fuel:Nat) (cs:List Value),cs.length=o+E.k→
    (∀f∈fs,∃x,DataW.trod enc P w base spare held fuel f.type ((cs.drop f.offset).take (P.cellsOf f.type))=some x)→∃a,cs.drop o=E.enc a∧D a
theorem OpensFs.one {f:Field}{o:Nat}{E:Enc α}{D:α→Prop}(ho:f.offset=o)(h:Opens P w f.type E D):OpensFs P w [f] o E D:=by
 intro H enc base spare held fuel cs hl hf;obtain⟨x,hx⟩:=hf f (by simp);rw[ho,h.1,List.take_of_length_le (by simp[hl])]at hx;exact h.2 _ _ _ _ _ _ _ _ hx
theorem OpensFs.cons {f:Field}{fs:List Field}{o:Nat}{E:Enc α}{F:Enc β}{D:α→Prop}{G:β→Prop}(ho:f.offset=o)(h:Opens P w f.type E D)(hs:OpensFs P w fs (o+E.k) F G):
  OpensFs P w (f::fs) o (prE E F) (fun p=>D p.1∧G p.2):=by
 intro H enc base spare held fuel cs hl hf;obtain⟨x,hx⟩:=hf f (by simp);rw[ho,h.1]at hx;obtain⟨a,ha,hd⟩:=h.2 _ _ _ _ _ _ _ _ hx;obtain⟨b,hb,hg⟩:=hs H enc base spare held fuel cs (by rw[hl];simp[prE];omega) (fun g hg=>hf g (by simp[hg]));refine⟨(a,b),?_,hd,hg⟩;show cs.drop o=E.enc a++F.enc b;rw[←ha,←hb,←List.drop_drop,List.take_append_drop]
theorem Opens.struct {t:TypeId}{fs:Array Field}{E:Enc α}{D:α→Prop}(ht:P.underlying t=some (.struct fs))(hc:P.cellsOf t=E.k)(h:OpensFs P w fs.toList 0 E D):Opens P w t E D:=by
 refine⟨hc,fun H enc base spare held fuel cs x hx=>?_⟩;obtain⟨xs,n,_,_,hl,hxs,hf⟩:=DataW.trod_struct ht hx;have:=h H enc base spare held n cs (by rw[hl,hc];omega) (fun f hf'=>by
  obtain⟨i,hi⟩:=List.getElem?_of_mem hf';have hi2:fs[i]? =some f:=by simpa using hi
  have hlt:i<fs.size:=(Array.getElem?_eq_some_iff.1 hi2).1;have:=hf i f hi2;rw[gEe (by omega)]at this;exact⟨_,this⟩)
 simpa using this
theorem Opens.arg {H:Type}{enc:TypeId×Value→H}{base:Nat}{spare:Nat→Bool}{held:Bool}{t e:TypeId}{E:Enc α}{D:α→Prop}{v:Value}{d:DataW H}{ps:List MemPlace}{b0:Nat}{r:Reach}
  (ht:P.underlying t=some (.slice e)) (hc:P.cellsOf t=1) (h:Opens P w e E D) (hv:Value.okWide P w r b0 t v) (hd:DataW.Trod enc P w base spare held t v d ps):
  ∃ao c l,v= .slice ao (List.length l) c∧Rd E w (.slice ao (List.length l) c) l∧∀x∈l,D x:=by
 obtain⟨a,len,cap,rfl⟩:=okWide_slice ht hv;obtain⟨fuel,hf⟩:=hd;obtain⟨s,hs,h1,h2⟩:=(Opens.slice ht hc h).2 _ _ _ _ _ _ _ _ hf;obtain⟨a',c',l⟩:=s;simp[Value.cells,svE,SV.v]at hs;obtain⟨rfl,rfl,rfl⟩:=hs;exact⟨_,_,l,rfl,h1,h2⟩
end Go.Proofs.YtfhkgohokbkgiaaGreatDoor
namespace Go.Proofs.YtfhkgohokbkgiaaGreatDoor
open Go.RowKit G Tryz
def KR {α:Type}(H:List SP)(E:Enc α)(s:SV α):Prop:=∀w,Sat w H→Rd E w s.v s.l
section
variable {α :Type}{H:List SP}{E:Enc α}{s:SV α}
theorem KR.up {P:SP}(h:KR H E s):KR (P::H) E s:=G.up h
theorem KR.tails {H':List SP}(h:KR H E s)(hs:∀w,Sat w H'→Sat w H):KR H' E s:=fun w h'=>h w (hs w h')
theorem KR.isSome (h:KR H E s)(hl:s.l≠ []):∀w,Sat w H→∃b o,s.a=some ⟨b,o,none⟩:=by
 intro w hs;obtain⟨b,o,c,hv,_⟩:=(h w hs).at (i:=0) (List.length_pos_iff.2 hl);unfold SV.v at hv;injection hv with h1;exact⟨b,o,h1⟩
theorem KR.le (h:KR H E s):∀w,Sat w H→s.l.length≤s.c∧s.c≤maxLen:=by
 intro w hs;obtain⟨ao,c,hv,h1,h2,_⟩:=h w hs;unfold SV.v at hv;injection hv with _ _ h3;omega
theorem KR.cell (h:KR H E s){b o i j:Nat}{x:α}{u:Value}(ha:s.a=some ⟨b,o,none⟩)(hx:s.l[i]? =some x)(hu:(E.enc x)[j]? =some u):∀w,Sat w H→w.cell? ⟨b,o+i*E.k+j,none⟩=some u:=by
 intro w hs;obtain⟨b',o',c',hv,_,_,hc⟩:=(h w hs).at (gSs hx).1;unfold SV.v at hv;injection hv with h1;rw[ha]at h1;cases h1;exact hc i j x u hx hu
theorem KR.old {W:World}(h:Rd E W s.v s.l)(i:Nat)(hi:H[i]? =some (old W)):KR H E s:=by
 intro w hs;have hb:=Sat.below hs hi;exact h.upd (G:=fun b=>W.heap.size≤b) ⟨hb.os,hb.tape,hb.output,hb.size,fun b hlt _=>hb.block b hlt⟩ (fun a c _ _ hlt hge=>by omega)
theorem KR.tail {x :α} {r:List α} {b o c:Nat} (h:KR H E ⟨some ⟨b,o,none⟩,c,x::r⟩):KR H E ⟨ZbC (some ⟨b,o,none⟩) c 1 E.k,c-1,r⟩:=by
  unfold ZbC;intro w hs;obtain⟨ao,c',hv,h1,h2,h3,h4⟩:=h w hs;unfold SV.v at hv;injection hv with e1 e2 e3;simp only at e1 e3;subst e3;simp only[List.length_cons]at h1;have e2':(r.length+1≤c)∧c≤maxLen:=by simp only[List.length_cons]at*;omega
  refine⟨_,c-1,rfl,by show r.length≤c-1;omega,by omega,?_,?_⟩
  · intro hn
    by_cases hc:c=1
    · rw[if_pos hc]at hn;cases hn
    · rw[if_neg hc]at hn;cases hn
  · intro a ha j u hu
    by_cases hc:c=1
    · have:r=[]:=List.eq_nil_of_length_eq_zero (by omega)
      subst this;simp[Enc.flat]at hu
    · rw[if_neg hc]at ha
      simp only[Option.map_some,Option.some.injEq]at ha;subst ha;have:=h4 ⟨b,o,none⟩ e1.symm (E.k+j) u (by
        rw[Enc.flat_cons,List.getElem?_append_right (by rw[E.len];omega),E.len,Nat.add_sub_cancel_left];exact hu)
      rw[Addr.add_lit]at this;simp only[Nat.one_mul,Addr.add_lit];rw[Nat.add_assoc];exact this
end
structure LabV where
 level:Int
 cats:Int
def LabV.cs (l:LabV):List Value:=[.int .i64 l.level,.int .u64 l.cats]
def LabV.v (l:LabV):Value:= .agg #[.int .i64 l.level,.int .u64 l.cats]
structure DomV where
 lab:LabV
 routes:SV (SV Int)
 release:SV Int
 to:Int
 threads:Int
 groups:Int
 ring:Int
 sends:Int
 box:Int
def DomV.cs (d:DomV):List Value:=[.int .i64 d.lab.level,.int .u64 d.lab.cats,.slice d.routes.a d.routes.l.length d.routes.c,.slice d.release.a d.release.l.length d.release.c,.int .i64 d.to,.int .i64 d.threads,.int .i64 d.groups,.int .i64 d.ring,.int .i64 d.sends,.int .i64 d.box]
def Zs2 :Enc DomV:=⟨10,by decide,DomV.cs,fun _=>rfl,by intro a u hu;simp[DomV.cs]at hu;rcases hu with rfl|rfl|rfl|rfl|rfl|rfl|rfl|rfl|rfl|rfl<;>rfl⟩
structure ConfV where
 frame:Int
 epoch:Int
 plans:SV (SV Int)
 domains:SV DomV
structure KC (H:List SP)(c:ConfV):Prop where
 plans:KR H (svE Int) c.plans
 plan:∀p∈c.plans.l,KR H (kE .i64) p
 domains:KR H Zs2 c.domains
 routes:∀d∈c.domains.l,KR H (svE Int) d.routes
 route:∀d∈c.domains.l,∀r∈d.routes.l,KR H (kE .i64) r
 release:∀d∈c.domains.l,KR H (kE .i64) d.release
theorem KC.tails {H H':List SP}{c:ConfV}(h:KC H c)(hs:∀w,Sat w H'→Sat w H):KC H' c:=
 ⟨h.plans.tails hs,fun p hp=>(h.plan p hp).tails hs,h.domains.tails hs,fun d hd=>(h.routes d hd).tails hs,fun d hd r hr=>(h.route d hd r hr).tails hs,fun d hd=>(h.release d hd).tails hs⟩
theorem KC.up {H:List SP}{c:ConfV}{P:SP}(h:KC H c):KC (P::H) c:=h.tails fun w hs=>hs.tail
end Go.Proofs.YtfhkgohokbkgiaaGreatDoor
namespace Go.Proofs.YtfhkgohokbkgiaaGreatDoor
abbrev cV (c:ConfV):Value:= .agg #[.int .i64 c.frame,.int .i64 c.epoch,.slice c.plans.a c.plans.l.length c.plans.c,.slice c.domains.a c.domains.l.length c.domains.c]
end Go.Proofs.YtfhkgohokbkgiaaGreatDoor
namespace Go.Proofs.YtfhkgohokbkgiaaGreatDoor
open Go.RowKit G Tryz
namespace G
section
variable {α :Type}{E:Enc α}{T:TypeId}{H:List SP}{P:Program}{n:Nat}{L:List (Nat×Value)}{c:Code}
theorem Row.uniq {w:World}{F F':Nat→Prop}{v:Value}{xs:List α}(h:Row E T w F v xs)(h':Row E T w F' v xs):F=F':=by
 rcases h with⟨h1,_,rfl⟩|⟨b,o,c,cur,h1,rfl,_⟩<;>rcases h' with⟨g1,_,rfl⟩|⟨b',o',c',cur',g1,rfl,_⟩
 ·rfl
 ·rw[h1]at g1;cases g1
 ·rw[h1]at g1;cases g1
 ·rw[h1]at g1;injection g1 with e1;injection e1 with e2;injection e2 with e3;rw[e3]
theorem row_form {w:World}{F:Nat→Prop}{v:Value}{xs:List α}(h:Row E T w F v xs):∃A c,v= .slice A xs.length c:=by
 rcases h with⟨h1,h2,_⟩|⟨b,o,c,cur,h1,_⟩
 ·exact⟨none,0,by rw[h1,h2];rfl⟩
 ·exact⟨_,_,h1⟩
theorem ZsJ {A:Option Addr}{k:Nat}{xs:List α}:KR (row E T (.slice A xs.length k) xs::H) E ⟨A,k,xs⟩:=by
 intro w hs;obtain⟨G,hG⟩:=hs.head;exact hG.rd
theorem Zad (i:Nat){A:Option Addr}{k:Nat}{xs:List α}(hi:H[i]? =some (row E T (.slice A xs.length k) xs)):KR H E ⟨A,k,xs⟩:=fun w hs=>ZsJ w (hs.pick i hi)
theorem Sat.rowNil {w:World}(h:Sat w H):Sat w (row E T (.slice none 0 0) []::H):=h.fresh (Upd.refl _ w) (Row.nil E T w) (fun b hb=>hb.elim)
theorem PT.rowNil (E:Enc α)(T:TypeId){Φ:Act→World→Prop}(h:PT n L (row E T (.slice none 0 0) []::H) Φ):PT n L H Φ:=PT.sat (fun w hs=>Sat.rowNil hs) h
theorem Sat.blkRow {w:World}{b:Nat}{x:α}(h:Sat w (blk b T (E.enc x)::H)):Sat w (row E T (.slice (some ⟨b,0,none⟩) 1 1) [x]::H):=
 Sat.change h fun G hG=>by
  refine⟨Upd.refl _ w,ZbN b,.inr ⟨b,0,1,_,rfl,rfl,hG.1,by simp,by simp[maxLen],by simp[E.len],?_⟩,fun x hx=> .inl ((hG.2 x).2 hx)⟩;simp only[List.drop_zero,List.length_singleton,Nat.one_mul,Enc.flat_one];rw[←E.len x];exact List.take_length
theorem PT.blkRow {b:Nat}{x:α}{Φ:Act→World→Prop}(h:PT n L (row E T (.slice (some ⟨b,0,none⟩) 1 1) [x]::H) Φ):PT n L (blk b T (E.enc x)::H) Φ:=PT.sat (fun w hs=>Sat.blkRow hs) h
theorem Zbr (i:Nat){b:Nat}{x:α}(hi:H[i]? =some (blk b T (E.enc x))):∀w,Sat w H→Rd E w (.slice (some ⟨b,0,none⟩) 1 1) [x]:=by
 intro w hs;obtain⟨G,hG⟩:=(hs.pick i hi).head;exact Rd.one hG.1
theorem Ety.of {z:Value}{b:Nat}(hi:(P.info? T).map (fun i=>(i.zero,i.size,i.bytes))=some (some z,E.k,b))(hb:b≤65536)(hz:z.cells.size=E.k):Ety P E T z:=by
  cases h:P.info? T with
  |none=>rw[h]at hi;cases hi
  | some i=>
    rw[h]at hi;simp only[Option.map_some,Option.some.injEq,Prod.mk.injEq]at hi;exact⟨⟨i,h,hi.1,hi.2.1,by rw[hi.2.2];exact hb⟩,hz⟩
theorem ZdU {i b o m k J j:Nat}{xs:List α}(x x':α)(u:Value)(ad:Addr)(h:∀rest,storesOk P n c i L rest=some [(ad,u)])(had:ad=⟨b,o+J*E.k+j,none⟩)(hx:xs[J]? =some x)(he:E.enc x'=(E.enc x).set j u)(hj:j<E.k):
  Step (ι:=Unit) P n L (row E T (.slice (some ⟨b,o,none⟩) m k) xs::H) c i none (fun _=>undef) (fun _=>row E T (.slice (some ⟨b,o,none⟩) m k) (xs.set J x')::H):=by
 subst had;refine skipS _ (fun rest=>(Za8 (h rest)).1) (Za8 (h fun _=>undef)).2.1 ?_;intro rest w _ hs;obtain⟨G,hG⟩:=hs.head;have hme:m=xs.length:=hG.lenEq;subst hme;refine⟨_,Zdz _ (Za8 (h rest)).2.2 ?_,?_⟩
 ·intro q hq
  simp only[List.mem_singleton]at hq;subst hq;refine⟨?_,hG.frozen rfl _⟩;have hr:Rd E w _ xs:=hG.rd;obtain⟨b',o',k',hv,_,_,hc⟩:=hr.at (i:=J) (gSs hx).1;cases hv;have hjl:j< (E.enc x).length:=by rw[E.len];exact hj
  rw[hc J j x _ hx (gEe hjl)];rfl
 ·refine Sat.change hs fun G' hG'=>?_
  have hu:=Row.uniq hG' hG;subst hu;refine⟨?_,G',Row.set hG' hx he hj,fun x hx=> .inl hx⟩;rcases hG' with⟨hv,_,_⟩|⟨b',o',c',cur,hv,hF,_⟩
  ·cases hv
  ·cases hv
   exact Upd.setCell w _ _ (by rw[hF];rfl)
theorem Ztf {z:Value}{i:Nat}(t:TypeId)(s x:Operand)(A:Option Addr)(cap:Nat)(xs ys:List α)(vy:Value)(d:Option Tmp)
  (hg:∀rest,Zcc n c i L rest=true) (hd:(Za5 c i).dst=d) (hop:(Za5 c i).op= .call {callee:= .builtin .append,args:= #[s,x],argTypes:= #[t,t]})
  (hs:∀rest,ZaD L rest s= .slice A xs.length cap) (hx:∀rest,ZaD L rest x=vy)
  (ht:P.underlying t=some (.slice T)) (hE:Ety P E T z)
  (hy:∀w,Sat w (row E T (.slice A xs.length cap) xs::H)→Rd E w vy ys) (hn:xs.length+ys.length≤1073741824):
  Step P n L (row E T (.slice A xs.length cap) xs::H) c i d (fun p:AN=> .slice p.1 (xs++ys).length p.2) (fun p=>row E T (.slice p.1 (xs++ys).length p.2) (xs++ys)::H):=by
 refine valueS d _ _ hg hd ?_;intro rest w _ hsat;obtain⟨G,hG⟩:=hsat.head;obtain⟨v',w',F',h1,h2,h3,h4,_⟩:=Zb2 (ty:=(Za5 c i).type) ht hE hG (hy w hsat) hn;obtain⟨A',k',rfl⟩:=row_form h2;refine⟨(A',k'),w',?_,?_⟩
 ·rw[show execOp (ZaD L rest) (Za5 c i)=_ from rfl]
  unfold execOp;simp only[hop,resolve,invoke,builtin,Sem.run_bind,Sem.run_pure,Result.andThen_ok,List.map_toArray,List.map_cons,List.map_nil,hs,hx,h1]
 ·exact Sat.change hsat fun G' hG'=>by
   have:=Row.uniq hG' hG;subst this;exact⟨h3,F',h2,h4⟩
end
theorem Zsf {P:Program}{n:Nat}{L:List (Nat×Value)}{c:Code}{S:World→Prop}{i:Nat}(src dst:TypeId)(x:Operand)(vx v:Value)(d:Option Tmp)(hg:∀rest,Zcc n c i L rest=true)(hd:(Za5 c i).dst=d)(hop:(Za5 c i).op= .convert src dst x)
  (hx:∀rest,ZaD L rest x=vx) (hr:∀w,(convert src dst vx).run P w= .ok v w):Yld P n L S c i d v:=by
 refine⟨hg,hd,fun rest w _ _=>?_⟩;unfold execOp;simp only[hop,hx rest,Sem.run_bind,hr w,Result.andThen_ok];rfl
theorem Zst {P:Program}{t t':TypeId}{x y:Operand}{k:IntKind}{a b:Int}(hb:b≠0)(w:World):(do eqGuard .quo t x y (.int k a) (.int k b);binOp .quo t (.int k a) (.int k b):Sem Value).run P w= .ok (.int k (k.wrap (a.tdiv b))) w:=by
 simp[eqGuard,binOp,Op.intDiv,hb,Sem.run_bind]
end G
end Go.Proofs.YtfhkgohokbkgiaaGreatDoor
namespace Go.Proofs.YtfhkgohokbkgiaaGreatDoor.G
section
variable {α :Type}{E:Enc α}{T:TypeId}{H:List SP}{P:Program}{n:Nat}{L:List (Nat×Value)}{c:Code}
theorem Xf {z:Value}{i:Nat}(t:TypeId)(s x:Operand)(A:Option Addr)(cap:Nat)(xs ys:List α)(vy:Value)(d:Nat)(ht:P.underlying t=some (.slice T))(hE:Ety P E T z)(hy:∀w,Sat w (row E T (.slice A xs.length cap) xs::H)→Rd E w vy ys)(hn:xs.length+ys.length≤1073741824)
  (hg:∀rest,Zcc n c i L rest=true:=by intro _;kernel_rfl) (hd:(Za5 c i).dst=some d:=by kernel_rfl) (hop:(Za5 c i).op= .call {callee:= .builtin .append,args:= #[s,x],argTypes:= #[t,t]}:=by kernel_rfl) (hs:∀rest,ZaD L rest s= .slice A xs.length cap:=by intro _;kernel_rfl) (hx:∀rest,ZaD L rest x=vy:=by intro _;kernel_rfl):
  Step P n L (row E T (.slice A xs.length cap) xs::H) c i (some d) (fun p:Option Addr×Nat=> .slice p.1 (xs++ys).length p.2) (fun p=>row E T (.slice p.1 (xs++ys).length p.2) (xs++ys)::H):=Ztf t s x A cap xs ys vy (some d) hg hd hop hs hx ht hE hy hn
end
end Go.Proofs.YtfhkgohokbkgiaaGreatDoor.G
namespace Go.Proofs.YtfhkgohokbkgiaaGreatDoor
open Go.RowKit G Tryz
def Znk (x y:Int):Int:=if x<y then-1 else if x>y then 1 else 0
theorem ZfY (H:List SP)(x:Int):US 236 #[vi x] H (.bool false):=by
 refine eG func236 6 ?_;exact Xq<|Xg 1<|Be<|Xq<|Xg 4<|Be<|Xv (Y0 (.bool (x !=x)) fun w hs=>⟨(),by simp,hs⟩)
theorem ZhO (H:List SP)(x y:Int):US 226 #[vi x,vi y] H (vi (Znk x y)):=by
 refine eG func226 20 ?_;refine Xq<|Xg 1<|Be<|Xq<|Xg 3<|Br 2 1<|Bs 1 (Xa (some 8) _ (ZfY _ x))<|Be<|Xq<|Xg 3<|Br 2 1<|Bs 1 (Xa (some 10) _ (ZfY _ y))<|Be<|Xq<|Xq<|Xg 1<|Be<|cF<|Xk<|Xq<|Xq<|Xg 1<|Be<|cF<|Xk<|Xq<|Xq<|Xg 3<|Be<|Xc (decide (x<y)) (fun h1=>?_) (fun h1=>?_)
 ·exact Xq<|Xg 1<|Be<|Xv (Zab (Y0 (vi (-1)) fun w hs=>⟨(),by rw[Znk,if_pos (of_decide_eq_true h1)],hs⟩))
 ·refine Xk<|Xq<|Xq<|Xg 3<|Be<|Xc (decide (x>y)) (fun h2=>?_) (fun h2=>?_)
  ·exact Xq<|Xg 1<|Be<|Xv (Zab (Y0 (vi 1) fun w hs=>⟨(),by rw[Znk,if_neg (of_decide_eq_false h1),if_pos (of_decide_eq_true h2)],hs⟩))
  ·exact Xk<|Xq<|Xg 1<|Be<|Xv (Y0 (vi 0) fun w hs=>⟨(),by rw[Znk,if_neg (of_decide_eq_false h1),if_neg (of_decide_eq_false h2)],hs⟩)
def orI (x y:Int):Int:=if x !=0 then x else y
theorem Zqj (H:List SP)(b:Nat)(x y:Int):US 225 #[.slice (s0 b) 2 2] (blk b 3 [vi x,vi y]::H) (vi (orI x y)):=by
 refine eG func225 18 ?_;refine Xq<|Xg 1<|Be<|Xq<|Xg 1<|Be<|Xq<|Xq<|Xg 3<|Be<|Xb 0 (Xp [(2,vi 0),(3,vi 0),(6,.slice (s0 b) 2 2),(7,vi 2),(8,vi 0)] (Xl0 (fun(u:Nat)=> [(2,vi 0),(3,vi 0),(6,.slice (s0 b) 2 2),(7,vi 2),(8,vi u)]) (fun k (u:Nat)=>k+u=2∧(1≤u→x=0)∧(2≤u→y=0)) 2 0 Kr ⟨rfl,by omega,by omega⟩ ?_));rintro k u ⟨hku,hx,hy⟩;have hu3:u=0∨u=1∨u=2:=by omega
 rcases hu3 with rfl|rfl|rfl
 ·refine Xq<|Xg 1<|Be<|Xq<|cT<|Xk<|Xq<|Xb 1<|Xq<|Xg 3<|Bs 2 (Zav (Xi 42 (.tmp 6) (.tmp 8) b 0 2 2 0 1 3 0 10 underlying42))<|Bm [(⟨b,0+0*1,none⟩,vi x)] (hasC ((ba 0)) Zaa)<|Xq<|Xg 3<|Be<|Xc (x !=0) (fun h1=>?_) (fun h1=>?_)
  ·exact Xq<|Xg 2<|Be<|Xv (Zae (Zab (Zab (Zae (Zab (Y0 (vi x) fun w hs=>⟨(),by rw[orI,if_pos h1],hs⟩))))))
  ·exact Xk<|Xg 2<|Be<|gA (k-1) 1 (by omega) ⟨by omega,fun _=>by simpa using h1,by omega⟩
 ·refine Xq<|Xg 1<|Be<|Xq<|cT<|Xk<|Xq<|Xb 1<|Xq<|Xg 3<|Bs 2 (Zav (Xi 42 (.tmp 6) (.tmp 8) b 0 2 2 1 1 3 1 10 underlying42))<|Bm [(⟨b,0+1*1,none⟩,vi y)] (hasC ((ba 0)) Zaa)<|Xq (Xg 3 (Be ?_));have hx0:=hx (by omega);refine Xc (y !=0) (fun h1=>?_) (fun h1=>?_)
  ·exact Xq<|Xg 2<|Be<|Xv (Zae (Zab (Zab (Zae (Zab (Y0 (vi y) fun w hs=>⟨(),by rw[orI,hx0];rfl,hs⟩))))))
  ·exact Xk<|Xg 2<|Be<|gA (k-1) 2 (by omega) ⟨by omega,fun _=>hx0,fun _=>by simpa using h1⟩
 ·refine Xq<|Xg 1<|Be<|Xq<|cF<|Xx 0<|Zao<|Zao<|Zax<|Xq<|Xg 2<|Be<|Xv ?_;have hx0:=hx (by omega);have hy0:=hy (by omega);refine Y0 (vi 0) (fun w hs=>?_);exact⟨(),by rw[orI,hx0,hy0];rfl,hs⟩
def byI (a b:Int×Int):Int:=orI (Znk a.1 b.1) (Znk a.2 b.2)
theorem Zfr (H:List SP)(p i q j:Int):US 194 #[.agg #[vi p,vi i],.agg #[vi q,vi j]] H (vi (byI (p,i) (q,j))):=by
 refine eG func194 17 ?_;exact Xq<|Xg 3<|Bx 2 (Xn 230 [vi p,vi i] (some 2) (fun b=>vp b)) fun b1=>Bx 1 (Xn 230 [vi q,vi j] (some 3) (fun b=>vp b)) fun b2=>Be<|Xq<|Xy0 0 [] 13<|At' [0,1,2,3,5,6,7,8] [(⟨b1,0,none⟩,vi p),(⟨b2,0,none⟩,vi q),(⟨b1,1,none⟩,vi i),(⟨b2,1,none⟩,vi j)] (hasC (ba 1) (hasC (ba 0) (hasC (ba 1) (hasC (ba 0) Zaa))))<|Yo 4 (Xa (some 9) _ (ZhO _ p q))<|Yo 9 (Xa (some 14) _ (ZhO _ i j))<|Xo 10 (Xn 3 [vi (Znk p q),vi (Znk i j)] (some 15) (fun b=> .slice (s0 b) 2 2)) fun b3=>Yo 11 (Xa (some 16) _ (Zqj _ b3 (Znk p q) (Znk i j)))<|At' [12] [] Zaa<|Xd (Xv (Y0 (vi (byI (p,i) (q,j))) fun w hs=>⟨(),rfl,hs.tail.tail.tail⟩))
def Zb6 (l:List (Int×Int))(id:Int):Int:=match l.findIdx? (fun e=>e.2==id)with|some i=>(i:Int)|none=> -1
theorem Zm4 {l:List (Int×Int)}{id:Int}(h:∀e∈l,e.2≠id):Zb6 l id= -1:=by
 have:l.findIdx? (fun e=>e.2==id)=none:=List.findIdx?_eq_none_iff.2 fun e he=>by simpa using h e he
 unfold Zb6;rw[this]
theorem Zm3 {l:List (Int×Int)}{id:Int}{i:Nat}{e:Int×Int}(he:l[i]? =some e)(hid:e.2=id)(hno:∀v e,v<i→l[v]? =some e→e.2≠id):Zb6 l id=i:=by
 obtain⟨hil,hie⟩:=gSs he;have:l.findIdx? (fun e=>e.2==id)=some i:=by
  rw[List.findIdx?_eq_some_iff_getElem];refine⟨hil,by rw[hie];simpa using hid,fun j hj=>?_⟩;have hjl:j<l.length:=by omega
  have:=hno j l[j] hj (by simp);simpa using this
 unfold Zb6;rw[this]
theorem ZhG (H:List SP)(b:Nat)(A:Option Addr)(cap:Nat)(room:Int)(l:List (Int×Int))(id:Int)(hl:l.length≤1000000):US 190 #[vp b,vi id] (blk b 279 [.slice A l.length cap,vi room]::row slE 230 (.slice A l.length cap) l::H) (vi (Zb6 l id)):=by
 refine eG func190 28 ?_;refine Xq (Xg 1 (Be ?_));refine ZcW 0 (fun(u:Nat)=> [(0,vp b),(1,vi id),(5,vi u)]) (fun _=>(blk b 279 [.slice A l.length cap,vi room]::row slE 230 (.slice A l.length cap) l::H)) (fun k (u:Nat)=>k+u=l.length∧∀v e,v<u→l[v]? =some e→e.2≠id) Kr Kr Kr Kr ?_ ?_
 ·rintro k u ⟨hku,hno⟩ K hK;refine Xq<|Xb 0<|Xq<|Xg 8<|Cm [(0,vp b),(1,vi id),(5,vi u),(6,.bool ((u:Int)==(l.length:Int)))] [(⟨b,0,none⟩,.slice A l.length cap)] (hasC (ba 0) Zaa)<|Xc ((u:Int)==(l.length:Int)) (fun h1=>?_) (fun h1=>?_)
  ·have hu0:(u:Int)=(l.length:Int):=eq_of_beq h1;have hu:u=l.length:=by omega
   exact Xq<|Xg 1<|Be<|Xv (Zae (Zab (ZcR (Y0 (vi (-1)) fun w hs=>⟨(),by rw[Zm4 (fun e he=>by obtain⟨v,hv⟩:=List.getElem?_of_mem he;exact hno v e (by have:=(gSs hv).1;omega) hv)],hs⟩))))
  ·have hu0:¬(u:Int)=(l.length:Int):=beq_eq_false_iff_ne.1 h1;have hu:u<l.length:=by omega
   obtain⟨e,he⟩:∃e,l[u]? =some e:=⟨_,by simp[hu];rfl⟩
   refine PT.know (KR.isSome (s:=⟨A,cap,l⟩) (Zad 1 rfl) (List.ne_nil_of_length_pos (by show 0<l.length;omega))) ?_;rintro⟨sb,so,hA⟩;dsimp only at hA;subst hA;refine Xq<|Xg 11<|Bl 6 5 [(⟨b,0,none⟩,.slice (sA sb so) l.length cap)] (hasC (ba 0) Zaa)<|Bs 5 (Zav (Xi 277 (.tmp 18) (.tmp 19) sb so l.length cap u 2 230 (u:Int) 20 underlying277))<|Bm [(⟨sb,so+u*2+1,none⟩,vi e.2)] (hasC ((Zad (xs:=l) (A:=some ⟨sb,so,none⟩) (k:=cap) (E:=slE) (T:=230) 1 rfl).cell rfl (i:=u) (x:=e) he (j:=1) rfl) Zaa)<|Xc (e.2==id) (fun h2=>?_) (fun h2=>?_)
   ·exact Xq<|Xg 2<|Be<|Xv (Zae (Zab (ZcR (Y0 (vi u) fun w hs=>⟨(),by rw[Zm3 (i:=u) he (by simpa using h2) hno],hs⟩))))
   ·refine Xk (Xq (Xg 3 (Ce [(0,vp b),(1,vi id),(5,vi (IntKind.i64.wrap ((u:Int)+1)))] ?_)));refine Zep 0 Kr Kr ?_;rw[show IntKind.i64.wrap ((u:Int)+1)=((u+1:Nat):Int)by rw[IntKind.wrap_i64];omega];have hno2:∀v e,v<u+1→l[v]? =some e→e.2≠id:=by
     intro v e' hv hv2;by_cases c:v=u
     ·subst c;rw[he]at hv2;cases hv2;simpa using h2
     ·exact hno v e' (by omega) hv2
    exact Xp _ (Zen (hK (k-1) (u+1) (by omega) ⟨by omega,hno2⟩))
 ·intro K hK;refine Xq<|Xg 1<|Be<|Xq ?_;refine ZcY Kr ?_;refine Xp [(0,vp b),(1,vi id),(5,vi 0)] ?_;refine ZeC Kr (hK l.length 0 ⟨by omega,fun v e hv=>by omega⟩)
def Zco (b:Nat)(room:Int)(l:List (Int×Int)):SP:=exS fun p:AN=>two (blk b 279 [.slice p.1 l.length p.2,.int .i64 room]) (row slE 230 (.slice p.1 l.length p.2) l)
theorem Sat.idx {w:World}{H:List SP}{b:Nat}{A:Option Addr}{cap:Nat}{room:Int}{l:List (Int×Int)}(h:Sat w (blk b 279 [.slice A l.length cap,.int .i64 room]::row slE 230 (.slice A l.length cap) l::H)):Sat w (Zco b room l::H):=Sat.closeEx (A,cap) (Sat.closeTwo h)
theorem Zd7 {Φ:World→Prop}{H:List SP}{b:Nat}{room:Int}{l:List (Int×Int)}(h:∀A cap w,Sat w (blk b 279 [.slice A l.length cap,.int .i64 room]::row slE 230 (.slice A l.length cap) l::H)→Φ w):∀w,Sat w (Zco b room l::H)→Φ w:=fun w hs=>by
 obtain⟨⟨A,cap⟩,h2⟩:=Sat.openEx hs;exact h A cap w (Sat.openTwo h2)
theorem ZjS {H:List SP}{b:Nat}{room:Int}{l:List (Int×Int)}{P:Program}{f:FuncId}{vs:Array Value}{v:Value}(h:∀A cap w,Sat w (blk b 279 [.slice A l.length cap,vi room]::row slE 230 (.slice A l.length cap) l::H)→Calls P f vs w (Ret (ι:=Unit) (fun _=>v) fun _=>blk b 279 [.slice A l.length cap,vi room]::row slE 230 (.slice A l.length cap) l::H)):
  ∀w,Sat w (Zco b room l::H)→Calls P f vs w (Ret (ι:=Unit) (fun _=>v) fun _=>Zco b room l::H):=
 Zd7 fun A cap w hs=>(h A cap w hs).mono fun e w' ⟨_,he,hx⟩=>⟨(),he,Sat.idx hx⟩
theorem Sat.erase {l:List SP}{w:World}(i:Nat){P:SP}(hi:l[i]? =some P)(h:Sat w l):Sat w (l.eraseIdx i):=(h.pick i hi).tail
def ZbG (n:Int):Bool:=decide (n≥0)&&decide (n≤1099511627776)
theorem Zfe (H:List SP)(n:Int):US 189 #[vi n] H (.bool (ZbG n)):=by
 refine eG func189 9 ?_;refine Xq<|Xg 1<|Be<|Xq (Xg 7 (Cr 4 3 [(0,vi n),(2,.bool false),(5,.bool (decide (n≥0)))] ?_));refine(Xs0 1 3 [(2,.bool false),(8,.bool ((decide (n≥0))&& (decide (n≤1099511627776))))] ?_ ?_:RT _ _ _ _ _ _ 4 _)
 ·cases hg3:(decide (n≥0))with
  |true=>
   refine Ae 3 ?_;exact mA ()
  |false=>
   refine Ae 3 ?_;exact mA ()
 exact Be<|Xv (Y0 (.bool ((decide (n≥0))&& (decide (n≤1099511627776)))) fun w hs=>⟨(),rfl,hs⟩)
def Zru (r:Int):Int:=mnI (mxI r 0) 64
theorem ZjC (H:List SP)(r:Int):U1 116 #[vi r] H (ι:=Nat) (fun b=>vp b) fun b=>Zco b (Zru r) []::H:=by
 refine eG func116 8 ?_;exact Xq<|Xg 1<|Be<|Xq<|Xg 6<|Br 2 4<|Bx 1 (Xn 279 [.slice none 0 0,vi (mnI (mxI r 0) 64)] (some 7) (fun b=>vp b)) fun b1=>Be<|Xv (Y0 (vp b1) fun w hs=>⟨b1,rfl,Sat.idx (A:=none) (cap:=0) (SatF.swap (Sat.rowNil hs))⟩)
theorem Zos (H:List SP)(b:Nat)(A:Option Addr)(cap:Nat)(room:Int)(l:List (Int×Int)):US 144 #[vp b] (blk b 279 [.slice A l.length cap,vi room]::row slE 230 (.slice A l.length cap) l::H) (vi (l.length:Int)):=by
 refine eG func144 8 ?_;exact Xq<|Xg 1<|Be<|Xq<|Xg 6<|Bm [(⟨b,0,none⟩,.slice A l.length cap)] (hasC (ba 0) Zaa)<|Xv (Y0 (vi (l.length:Int)) fun w hs=>⟨(),rfl,hs⟩)
theorem ZmH (H:List SP)(b:Nat)(room:Int)(l:List (Int×Int)):US 144 #[vp b] (Zco b room l::H) (vi (l.length:Int)):=
 ZjS fun A cap=>Zos H b A cap room l
def Zq6 (l:List (Int×Int)):(Int×Int)×Bool:=match l with| []=>((0,0),false)|e::_=>(e,true)
theorem Zok (H:List SP)(b:Nat)(A:Option Addr)(cap:Nat)(room:Int)(l:List (Int×Int)):US 102 #[vp b] (blk b 279 [.slice A l.length cap,vi room]::row slE 230 (.slice A l.length cap) l::H) (.tuple #[.agg #[vi (Zq6 l).1.1,vi (Zq6 l).1.2],.bool (Zq6 l).2]):=by
 refine eG func102 17 ?_;refine Xq<|Xg 2<|Bx 1 (Xn 230 [vi 0,vi 0] (some 2) (fun b=>vp b)) fun b1=>Be<|Xq<|Xq<|Xg 6<|Cm [(2,vp b1),(0,vp b),(3,.bool false),(9,.bool ((l.length:Int)==0))] [(⟨b,0,none⟩,.slice A l.length cap)] (hasC (ba 1) Zaa)<|Xc ((l.length:Int)==0) (fun h1=>?_) (fun h1=>?_)
 ·have hl0:(l.length:Int)=0:=eq_of_beq h1;obtain rfl:l=[]:=List.eq_nil_of_length_eq_zero (by omega);refine Xq<|Xg 3<|Br 2 1<|Bs 1 (Xz [(0,vi 0),(1,vi 0)])<|Be<|Xv<|Zab<|dB 0 (.tuple #[.agg #[.int .i64 0,.int .i64 0],.bool false]) (fun w hs=>?_);exact⟨(),rfl,hs.tail⟩
 ·have hl0:¬(l.length:Int)=0:=beq_eq_false_iff_ne.1 h1;obtain⟨e,r,rfl⟩:∃e r,l=e::r:=List.exists_cons_of_length_pos (by omega);refine PT.know (KR.isSome (s:=⟨A,cap,e::r⟩) (Zad 2 rfl) (by simp)) ?_;rintro⟨sb,so,hA⟩;dsimp only at hA;subst hA;refine Xk<|Xq<|Xg 8<|Bl 4 4 [(⟨b,0,none⟩,.slice (sA sb so) ((e::r).length) cap)] (hasC (ba 1) Zaa)<|Bs 3 (Zav (Xi 277 (.tmp 14) (.const (.int .i64 0)) sb so ((e::r).length) cap 0 2 230 0 15 underlying277))<|Bl 2 1 [(⟨sb,so+0*2,none⟩,vi e.1),(⟨sb,so+0*2+1,none⟩,vi e.2)] (hasC ((Zad (xs:=e::r) (A:=some ⟨sb,so,none⟩) (k:=cap) (E:=slE) (T:=230) 2 rfl).cell rfl (i:=0) (x:=e) rfl (j:=0) rfl) (hasC ((Zad (xs:=e::r) (A:=some ⟨sb,so,none⟩) (k:=cap) (E:=slE) (T:=230) 2 rfl).cell rfl (i:=0) (x:=e) rfl (j:=1) rfl) Zaa))<|Bs 1 (Xz [(0,vi e.1),(1,vi e.2)])<|Be<|Xv<|dB 0 (.tuple #[.agg #[.int .i64 e.1,.int .i64 e.2],.bool true]) (fun w hs=>?_);exact⟨(),rfl,hs.tail⟩
theorem ZmB (H:List SP)(b:Nat)(room:Int)(l:List (Int×Int)):US 102 #[vp b] (Zco b room l::H) (.tuple #[.agg #[vi (Zq6 l).1.1,vi (Zq6 l).1.2],.bool (Zq6 l).2]):=
 ZjS fun A cap=>Zok H b A cap room l
theorem findI_cases (l:List (Int×Int))(id:Int):(Zb6 l id= -1∧∀e∈l,e.2≠id)∨∃(i:Nat) (e:Int×Int),Zb6 l id=i∧l[i]? =some e∧e.2=id∧∀v e,v<i→l[v]? =some e→e.2≠id:=by
 unfold Zb6;cases h:l.findIdx? (fun e=>e.2==id)with
 |none=>exact .inl ⟨rfl,fun e he=>by simpa using List.findIdx?_eq_none_iff.1 h e he⟩
 |some i=>
  right;obtain⟨h1,h2,h3⟩:=List.findIdx?_eq_some_iff_getElem.1 h;refine⟨i,l[i],rfl,by simp,by simpa using h2,fun v e hv hve=>?_⟩;obtain⟨hvl,rfl⟩:=gSs hve;have:=h3 v hv;simpa using this
def eLt (a b:Int×Int):Prop:=a.1<b.1∨a.1=b.1∧a.2<b.2
instance (a b:Int×Int):Decidable (eLt a b):=by unfold eLt;infer_instance
theorem Zns (a b:Int×Int):byI a b<0↔eLt a b:=by
 unfold byI orI Znk eLt;by_cases h1:a.1<b.1
 ·simp[h1]
 ·by_cases h2:a.1>b.1
  ·simp[h1,h2];omega
  ·have h3:a.1=b.1:=by omega
   by_cases h4:a.2<b.2
   ·simp[h3,h4]
   ·by_cases h5:a.2>b.2<;>simp[h3,h4,h5]
theorem ZcL {a b c:Int×Int}(h:eLt a b)(g:eLt b c):eLt a c:=by unfold eLt at*;omega
theorem eLt_irrefl (a:Int×Int):¬eLt a a:=by unfold eLt;omega
theorem eLt_total {a b:Int×Int}(h:¬eLt a b):a=b∨eLt b a:=by
 unfold eLt at*;by_cases h1:a.1=b.1
 ·by_cases h2:a.2=b.2
  ·exact .inl (Prod.ext h1 h2)
  ·exact .inr (by omega)
 ·exact .inr (by omega)
def SrtE (l:List (Int×Int)):Prop:=l.Pairwise eLt
theorem SrtE.at {l:List (Int×Int)}(h:SrtE l){u v:Nat}{x y:Int×Int}(hu:l[u]? =some x)(hv:l[v]? =some y)(huv:u<v):eLt x y:=by
 obtain⟨hu1,rfl⟩:=gSs hu;obtain⟨hv1,rfl⟩:=gSs hv;exact List.pairwise_iff_getElem.1 h u v hu1 hv1 huv
def Zs9 (l:List (Int×Int))(e:Int×Int)(i:Nat):Prop:=i≤l.length∧(∀v x,v<i→l[v]? =some x→eLt x e)∧∀v x,i≤v→l[v]? =some x→¬eLt x e
theorem ZqJ {i j:Nat}(h:i<1000000)(h2:j<1000000):IntKind.i64.wrap (Int.fdiv (IntKind.u64.wrap (IntKind.i64.wrap ((i:Int)+(j:Int)))) 2)=(((i+j)/2:Nat):Int):=by
 have h3:IntKind.i64.wrap ((i:Int)+(j:Int))=((i+j:Nat):Int):=by rw[IntKind.wrap_i64];omega
 have h4:IntKind.u64.wrap ((i+j:Nat):Int)=((i+j:Nat):Int):=by rw[IntKind.wrap_u64];omega
 rw[h3,h4,Int.fdiv_eq_ediv_of_nonneg _ (by omega),IntKind.wrap_i64];omega
theorem ZqT (H:List SP)(s:SV (Int×Int))(p i:Int)(hk:KR H slE s)(hsr:SrtE s.l)(hl:s.l.length<1000000):U1 222 #[.slice s.a s.l.length s.c,.agg #[vi p,vi i],.func (.func 194) #[] #[]] H (ι:={x:Nat×Bool//Zs9 s.l (p,i) x.1}) (fun x=> .tuple #[vi (x.1.1:Int),.bool x.1.2]) fun _=>H:=by
 refine eG func222 49 ?_;refine Xq<|Xg 3<|Bx 2 (Xn 230 [vi p,vi i] (some 4) (fun b=>vp b)) fun b1=>Be<|Xq<|Xg 3<|Be<|Xq<|Xg 3<|Be<|Xq (Xb 0 (Xp [(0,.slice s.a s.l.length s.c),(2,.func (.func 194) #[] #[]),(4,vp b1),(6,vi 0),(7,.bool false),(8,vi (s.l.length:Int)),(9,vi 0),(10,vi (s.l.length:Int))] (Xl0 (fun(x:Nat×Nat)=> [(0,.slice s.a s.l.length s.c),(2,.func (.func 194) #[] #[]),(4,vp b1),(6,vi 0),(7,.bool false),(8,vi (s.l.length:Int)),(9,vi (x.1:Int)),(10,vi (x.2:Int))]) (fun k (x:Nat×Nat)=>k=x.2-x.1∧x.1≤x.2∧x.2≤s.l.length∧(∀v y,v<x.1→s.l[v]? =some y→eLt y (p,i))∧(∀v y,x.2≤v→s.l[v]? =some y→¬eLt y (p,i))) s.l.length (0,s.l.length) Kr ⟨by simp,by simp,by simp,fun v y hv=>by simp at hv,fun v y hv hy=>by have:=(gSs hy).1;simp at hv;omega⟩ ?_)))
 rintro k ⟨a,z⟩ ⟨hk1,haz,hzl,hlo,hhi⟩;dsimp only at hk1 haz hzl hlo hhi ⊢;refine Xq<|Xq<|Xg 3<|Be<|Xc (decide ((a:Int)< (z:Int))) (fun h1=>?_) (fun h1=>?_)
 ·have h1':a<z:=by have:=of_decide_eq_true h1;omega
  refine Xk<|Xb 1<|Xq<|Xg 7<|Be<|Xq<|Xy0 0 [] 8<|Xt [0,1,2,5] [(0,.slice s.a s.l.length s.c),(2,.func (.func 194) #[] #[]),(4,vp b1),(6,vi 0),(7,.bool false),(8,vi (s.l.length:Int)),(9,vi a),(10,vi z),(11,vi (IntKind.i64.wrap (Int.fdiv (IntKind.u64.wrap (IntKind.i64.wrap ((a:Int)+(z:Int)))) 2))),(24,.func (.func 194) #[] #[]),(25,.slice s.a s.l.length s.c),(26,vi (IntKind.i64.wrap (Int.fdiv (IntKind.u64.wrap (IntKind.i64.wrap ((a:Int)+(z:Int)))) 2))),(29,.agg #[vi p,vi i])] [(⟨b1,0,none⟩,vi p),(⟨b1,1,none⟩,vi i)] (hasC (ba 0) (hasC (ba 0) Zaa)) ?_;rw[ZqJ (by omega) (by omega)];obtain⟨h,hh⟩:∃h,h=(a+z)/2:=⟨_,rfl⟩
  rw[←hh];have hhl:h<s.l.length:=by omega
  obtain⟨y,hy⟩:∃y,s.l[h]? =some y:=⟨_,by simp[hhl];rfl⟩
  refine PT.know ((hk).up.isSome (List.ne_nil_of_length_pos (by omega))) ?_;rintro⟨sb,so,hA⟩
  try rw[hA]
  refine Xu 3 (Xi 277 (.tmp 25) (.tmp 26) sb so s.l.length s.c h 2 230 (h:Int) 27 underlying277)<|At' [4] [(⟨sb,so+h*2,none⟩,vi y.1),(⟨sb,so+h*2+1,none⟩,vi y.2)] (hasC (up (hk.cell hA (i:=h) (x:=y) hy (j:=0) rfl)) (hasC (up (hk.cell hA (i:=h) (x:=y) hy (j:=1) rfl)) Zaa))<|Yo 6 (Xa (some 30) _ (Zfr _ y.1 y.2 p i))<|Xt [7] [(0,.slice (some ⟨sb,so,none⟩) s.l.length s.c),(2,.func (.func 194) #[] #[]),(4,vp b1),(6,vi 0),(7,.bool false),(8,vi (s.l.length:Int)),(9,vi a),(10,vi z),(11,vi h),(31,.bool (decide ((byI (y.1,y.2) (p,i))<0)))] [] Zaa<|Xd ?_
  try rw[←hA]
  refine Xc (decide ((byI (y.1,y.2) (p,i))<0)) (fun h2=>?_) (fun h2=>?_)
  ·have h2':eLt y (p,i):=(Zns y (p,i)).1 (of_decide_eq_true h2);have hw:IntKind.i64.wrap ((h:Int)+1)=((h+1:Nat):Int):=by rw[IntKind.wrap_i64];omega
   have hlo2:∀v y',v<h+1→s.l[v]? =some y'→eLt y' (p,i):=by
    intro v y' hv hy';by_cases c:v=h
    ·subst c;rw[hy]at hy';cases hy';exact h2'
    ·exact ZcL (hsr.at hy' hy (by omega)) h2'
   refine Xg 3<|Be<|Xp [(0,.slice s.a s.l.length s.c),(2,.func (.func 194) #[] #[]),(4,vp b1),(6,vi 0),(7,.bool false),(8,vi (s.l.length:Int)),(9,vi (IntKind.i64.wrap ((h:Int)+1))),(10,vi z)] ?_;exact Za3 (z- (h+1)) (h+1,z) (by rw[hw]) rfl (by omega) ⟨rfl,by simp only;omega,hzl,hlo2,hhi⟩
  ·have h2':¬eLt y (p,i):=fun h=>of_decide_eq_false h2 ((Zns y (p,i)).2 h)
   have hhi2:∀v y',h≤v→s.l[v]? =some y'→¬eLt y' (p,i):=by
    intro v y' hv hy';by_cases c:v=h
    ·subst c;rw[hy]at hy';cases hy';exact h2'
    ·exact fun h3=>h2' (ZcL (hsr.at hy hy' (by omega)) h3)
   exact Xg 2<|Be<|gA (h-a) (a,h) (by omega) ⟨rfl,by simp only;omega,by simp only;omega,hlo,hhi2⟩
 ·have h1':a=z:=by have:=of_decide_eq_false h1;omega
  subst h1';refine Xx 0<|Zao<|Zao<|Zax<|Xq<|Xy0 0 [] 16<|Xt [0,1,2,3,4] [(0,.slice s.a s.l.length s.c),(2,.func (.func 194) #[] #[]),(4,vp b1),(6,vi 0),(7,.bool false),(9,vi a),(35,vi a),(39,.bool (decide ((a:Int)< (s.l.length:Int))))] [] Zaa ?_;cases h2:(decide ((a:Int)< (s.l.length:Int)))with
  |true=>
   have hal:a<s.l.length:=by have:=of_decide_eq_true h2;omega
   obtain⟨y,hy⟩:∃y,s.l[a]? =some y:=⟨_,by simp[hal];rfl⟩
   refine PT.know ((hk).up.isSome (List.ne_nil_of_length_pos (by omega))) ?_;rintro⟨sb,so,hA⟩
   try rw[hA]
   exact At' [5,6,7,10] [(⟨b1,0,none⟩,vi p),(⟨b1,1,none⟩,vi i)] (hasC (ba 0) (hasC (ba 0) Zaa))<|Xu 8 (Xi 277 (.tmp 41) (.tmp 42) sb so s.l.length s.c a 2 230 (a:Int) 43 underlying277)<|At' [9] [(⟨sb,so+a*2,none⟩,vi y.1),(⟨sb,so+a*2+1,none⟩,vi y.2)] (hasC (up (hk.cell hA (i:=a) (x:=y) hy (j:=0) rfl)) (hasC (up (hk.cell hA (i:=a) (x:=y) hy (j:=1) rfl)) Zaa))<|Yo 11 (Xa (some 46) _ (Zfr _ y.1 y.2 p i))<|At' [12,13,14,15] [] Zaa<|Xd (Xv (Y0 (.tuple #[vi a,.bool ((byI (y.1,y.2) (p,i))==0)]) fun w hs=>⟨⟨(a,byI (y.1,y.2) (p,i)==0),hzl,hlo,hhi⟩,rfl,hs.tail⟩))
  |false=>
   exact At' [5,6,7,8,9,10,11,12,13,14,15] [] Zaa<|Xd (Xv (Y0 (.tuple #[vi a,.bool false]) fun w hs=>⟨⟨(a,false),hzl,hlo,hhi⟩,rfl,hs.tail⟩))
def ZsM (P:SP)(G:Nat→Prop):SP:=⟨fun w F=>P.holds w F∧F=G,fun h=>P.lt h.1,fun h a=>⟨P.stay h.1 a,h.2⟩⟩
theorem Ze0 {α:Type}{E:Enc α}{T:TypeId}{v:Value}{xs zs:List α}{H:List SP}{P:Program}{f:FuncId}{vs:Array Value}
  (h:∀w F,Row E T w F v xs→SatF H w (fun b=>True∧¬F b)→Calls P f vs w (ZaO E T F w zs)):
  ∀w,Sat w (row E T v xs::H)→Calls P f vs w (Ret (ι:=AN) (fun p=> .slice p.1 zs.length p.2) fun p=>row E T (.slice p.1 zs.length p.2) zs::H):=by
 rintro w ⟨G,hG,_,h3⟩;refine(h w G hG h3).mono ?_;rintro e w' ⟨v',F',rfl,hr,hu,hf⟩;have hp:Sat w (ZsM (row E T v xs) G::H):=⟨G,⟨hG,rfl⟩,fun _ _=>trivial,h3⟩
 have key:Sat w' (row E T v' zs::H):=hp.change fun G' hG'=>by
  obtain⟨_,rfl⟩:=hG';exact⟨hu,F',hr,hf⟩
 rcases hr with⟨rfl,h0,_⟩|⟨b,o,c,cur,rfl,_⟩
 ·subst h0;exact⟨(none,0),rfl,key⟩
 ·exact⟨(some ⟨b,o,none⟩,c),rfl,key⟩
theorem ZoD (H:List SP)(j:Nat)(v:Value)(xs:List (Int×Int))(x:Int×Int)(yb:Nat)(T':TypeId)(hj:H[j]? =some (blk yb T' (slE.enc x)))(i:Nat)(hi:i≤xs.length)(hn:xs.length≤1000000000):
  ∀w,Sat w (row slE 230 v xs::H)→Calls Tryz.prog 223 #[v,.int .i64 i,.slice (some ⟨yb,0,none⟩) 1 1] w (Ret (ι:=AN) (fun p=> .slice p.1 (xs.take i++x::xs.drop i).length p.2) fun p=>row slE 230 (.slice p.1 (xs.take i++x::xs.drop i).length p.2) (xs.take i++x::xs.drop i)::H):=
 Ze0 fun w F hr h3=>by
  obtain⟨K,⟨hk1,hk2⟩,hk3,_⟩:=SatF.pick j hj h3;exact ZrW w F v xs x hr yb T' hk1 ((hk3 yb ((hk2 yb).2 rfl)).2) i hi hn
theorem ZoM (H:List SP)(v:Value)(xs:List (Int×Int))(i:Nat)(hi:i<xs.length)(hn:xs.length≤1000000000):
  ∀w,Sat w (row slE 230 v xs::H)→Calls Tryz.prog 192 #[v,.int .i64 i,.int .i64 ((i:Int)+1)] w (Ret (ι:=AN) (fun p=> .slice p.1 (xs.take i++xs.drop (i+1)).length p.2) fun p=>row slE 230 (.slice p.1 (xs.take i++xs.drop (i+1)).length p.2) (xs.take i++xs.drop (i+1))::H):=
 Ze0 fun w F hr _=>Zsa w F v xs hr i hi hn
def Zd6 (e:Int×Int):List (Int×Int)→List (Int×Int)
 | []=> [e]
 |x::r=>if eLt x e then x::Zd6 e r else e::x::r
theorem ZjR (e:Int×Int):∀(l:List (Int×Int)) (i:Nat),Zs9 l e i→l.take i++e::l.drop i=Zd6 e l
 | [],i,h=>by simp[Zd6]
 |x::r,0,h=>by
  have:=h.2.2 0 x (by omega) rfl;simp[Zd6,this]
 |x::r,i+1,h=>by
  have h1:=h.2.1 0 x (by omega) rfl;have ih:=ZjR e r i ⟨by have:=h.1;simp at this;omega,fun v y hv hy=>h.2.1 (v+1) y (by omega) (by simpa using hy),fun v y hv hy=>h.2.2 (v+1) y (by omega) (by simpa using hy)⟩;simp only[Zd6,List.take_succ_cons,List.drop_succ_cons,List.cons_append,if_pos h1,ih]
theorem Zfg (H:List SP)(b:Nat)(A:Option Addr)(cap:Nat)(room:Int)(l:List (Int×Int))(p i:Int)(hsr:SrtE l)(hl:l.length<1000000):U1 191 #[vp b,.agg #[vi p,vi i]] (blk b 279 [.slice A l.length cap,vi room]::row slE 230 (.slice A l.length cap) l::H) (ι:=AN) (fun _=> .tuple #[]) fun x=>blk b 279 [.slice x.1 (Zd6 (p,i) l).length x.2,vi room]::row slE 230 (.slice x.1 (Zd6 (p,i) l).length x.2) (Zd6 (p,i) l)::H:=by
 refine eG func191 26 ?_;refine Xq<|Xg 1<|Bx 0 (Xn 230 [vi p,vi i] (some 3) (fun b=>vp b)) fun b1=>endR<|Xq<|Xy0 0 [] 11<|Xt [0,1,2,3,4] [(3,vp b1),(0,vp b),(10,.slice A l.length cap),(11,.agg #[vi p,vi i])] [(⟨b,0,none⟩,.slice A l.length cap),(⟨b1,0,none⟩,vi p),(⟨b1,1,none⟩,vi i)] (hasC (ba 1) (hasC (ba 0) (hasC (ba 0) Zaa)))<|Xo 5 (Xa (some 12) _ (ZqT _ ⟨A,cap,l⟩ p i (Zad 2 rfl) hsr hl)) (fun(x:{x:Nat×Bool//Zs9 l (p,i) x.1})=>?_)
 obtain⟨⟨m,fo⟩,hcut⟩:=x;dsimp only;refine At' [6,7,8,9,10] [] Zaa<|Xd<|PT.pick 2 rfl<|Xy0 1 [11] 12<|Xt [0,1,2,3,4,5,6] [(15,vp b),(19,.slice A l.length cap),(20,vi m),(21,.agg #[vi p,vi i])] [(⟨b,0,none⟩,.slice A l.length cap),(⟨b1,0,none⟩,vi p),(⟨b1,1,none⟩,vi i)] (hasC (ba 1) (hasC (ba 0) (hasC (ba 0) Zaa)))<|Xo 7 (Xn 230 [vi p,vi i] (some 22) (fun b=> .slice (s0 b) 1 1)) fun b2=>DT.pick 1 rfl<|Xo 8 (Xa (some 23) _ (ZoD (blk b2 230 [.int .i64 p,.int .i64 i]::blk b1 230 [.int .i64 p,.int .i64 i]::blk b 279 [.slice A l.length cap,.int .i64 room]::H) 0 (.slice A l.length cap) l (p,i) b2 _ rfl m hcut.1 (by omega))) (fun(r:AN)=>?_)
 rw[ZjR (p,i) l m hcut];exact At' [9,10] [] Zaa<|DT.pick 3 rfl<|Yo 11 (Xz [(0,.slice r.1 ((Zd6 (p,i) l).length) r.2)])<|Xd (Y1 (.tuple #[]) fun w hs=>⟨r,rfl,Sat.erase 2 rfl (Sat.erase 2 rfl hs)⟩)
def Zal (e:Int):Value:=if e=0 then .nilIface else .iface 126 (.int .i64 e)
def ZjB (room:Int)(l:List (Int×Int))(p id:Int):Int×List (Int×Int):=
 if((!ZbG p)||decide (id<0))=true then(10,l)else if Zb6 l id≥0 then(20,l)else if(l.length:Int)≥room then(14,l)else(0,Zd6 (p,id) l)
theorem Zod (H:List SP)(b:Nat)(A:Option Addr)(cap:Nat)(room:Int)(l:List (Int×Int))(p id:Int)(hsr:SrtE l)(hl:l.length<1000000):U1 143 #[vp b,vi p,vi id] (blk b 279 [.slice A l.length cap,vi room]::row slE 230 (.slice A l.length cap) l::H) (ι:=AN) (fun _=>Zal (ZjB room l p id).1) fun x=>blk b 279 [.slice x.1 (ZjB room l p id).2.length x.2,vi room]::row slE 230 (.slice x.1 (ZjB room l p id).2.length x.2) (ZjB room l p id).2::H:=by
 refine eG func143 39 ?_;refine Xq (Xg 1 (Ae 1 ?_));refine Xq (Xb 0 (Xq (Xg 8 (Ar ?_ 7 1))));refine Xs (Xa (some 9) _ (Zfe _ p)) (fun _=>?_) 6;refine Xr [(0,vp b),(1,vi p),(2,vi id),(6,.nilIface),(11,.bool (!(ZbG p)))] ?_ 4 2;refine(Xs0 1 3 [(0,vp b),(1,vi p),(2,vi id),(6,.nilIface),(14,.bool ((!(ZbG p))||(decide (id<0))))] ?_ ?_:RT _ _ _ _ _ _ 4 _)
 ·cases hg4:(!(ZbG p))with
  |true=>
   refine Ae 3 ?_;exact mA ()
  |false=>
   refine Ae 3 ?_;exact mA ()
 refine Ae 1 ?_;refine Xc ((!(ZbG p))||(decide (id<0))) (fun h1=>?_) (fun h1=>?_)
 ·refine Xq (Xg 2 (Xe [(0,vp b),(1,vi p),(2,vi id),(6,.iface 126 (vi 10))] ?_ 2));refine Xv (Zae (Zab (Y0 (.iface 126 (vi 10)) (fun w hs=>?_))));rw[ZjB,if_pos h1];exact⟨(A,cap),rfl,hs⟩
 ·have h1':¬((!ZbG p)||decide (id<0))=true:=by rw[show((!ZbG p)||decide (id<0))=false from h1];simp
  refine Xq (Xg 5 (Ar ?_ 3 2));refine Xs (Xa (some 19) _ (ZhG _ b A cap room l id (by omega))) (fun _=>?_) 2;refine Ae 2 ?_;refine Xc (decide ((Zb6 l id)≥0)) (fun h2=>?_) (fun h2=>?_)
  ·refine Xq (Xg 2 (Xe [(0,vp b),(1,vi p),(2,vi id),(6,.iface 126 (vi 20))] ?_ 2));refine Xv (Zae (Zab (Y0 (.iface 126 (vi 20)) (fun w hs=>?_))));rw[ZjB,if_neg h1',if_pos (of_decide_eq_true h2)];exact⟨(A,cap),rfl,hs⟩
  ·refine Xq (Xy0 0 [] 11 ?_);refine At' [0,1,2,3,4,5,6,7,8,9,10] [(⟨b,0,none⟩,.slice A l.length cap),(⟨b,1,none⟩,vi room)] (hasC (ba 0) (hasC (ba 0) Zaa)) ?_;refine Xd (Xc (decide ((l.length:Int)≥room)) (fun h3=>?_) (fun h3=>?_))
   ·refine Xq (Xg 2 (Xe [(0,vp b),(1,vi p),(2,vi id),(6,.iface 126 (vi 14))] ?_ 2));refine Xv (Zae (Zab (Y0 (.iface 126 (vi 14)) (fun w hs=>?_))));rw[ZjB,if_neg h1',if_neg (of_decide_eq_false h2),if_pos (of_decide_eq_true h3)];exact⟨(A,cap),rfl,hs⟩
   ·refine Xk (Xq (Xg 5 (Ar ?_ 1 4)));refine Xs (Xa (some 38) _ (Zfg _ b A cap room l p id hsr hl)) (fun(r:AN)=>?_) 0;refine endR ?_;refine Xq (Xg 1 (Xe [(6,.nilIface)] ?_ 1));refine Xv (Y0 (.nilIface) (fun w hs=>?_));rw[ZjB,if_neg h1',if_neg (of_decide_eq_false h2),if_neg (of_decide_eq_false h3)];exact⟨r,rfl,hs⟩
def Zb7 (l:List (Int×Int))(id:Int):Int×List (Int×Int):=if Zb6 l id<0 then(13,l)else(0,l.take (Zb6 l id).toNat++l.drop ((Zb6 l id).toNat+1))
theorem ZhL (H:List SP)(b:Nat)(A:Option Addr)(cap:Nat)(room:Int)(l:List (Int×Int))(id:Int)(hl:l.length<1000000):U1 145 #[vp b,vi id] (blk b 279 [.slice A l.length cap,vi room]::row slE 230 (.slice A l.length cap) l::H) (ι:=AN) (fun _=>Zal (Zb7 l id).1) fun x=>blk b 279 [.slice x.1 (Zb7 l id).2.length x.2,vi room]::row slE 230 (.slice x.1 (Zb7 l id).2.length x.2) (Zb7 l id).2::H:=by
 refine eG func145 23 ?_;refine Xq<|Xg 1<|Be<|Xq<|Xg 4<|Br 2 2<|Bs 1 (Xa (some 8) _ (ZhG _ b A cap room l id (by omega)))<|Be<|Xq<|Xq<|Xg 2<|Ce [(0,vp b),(4,.nilIface),(5,vi (Zb6 l id)),(10,.bool (decide ((Zb6 l id)<0)))]<|Xc (decide ((Zb6 l id)<0)) (fun h1=>?_) (fun h1=>?_)
 ·refine Xq<|Xg 2<|Ce [(0,vp b),(4,.iface 126 (vi 13)),(5,vi (Zb6 l id))]<|Xv (Zab (Y0 (.iface 126 (vi 13)) (fun w hs=>?_)));rw[Zb7,if_pos (of_decide_eq_true h1)];exact⟨(A,cap),rfl,hs⟩
 ·have h1':=of_decide_eq_false h1;rcases findI_cases l id with⟨hf,_⟩|⟨i,e,hf,he,hid,_⟩
  ·omega
  have hil:=(gSs he).1;have hd:Zb7 l id=(0,l.take i++l.drop (i+1)):=by rw[Zb7,if_neg h1',hf,Int.toNat_natCast]
  rw[hf,hd];have hw:IntKind.i64.wrap ((i:Int)+1)=(i:Int)+1:=by rw[IntKind.wrap_i64];omega
  refine Xk (Xq (Xg 12 (Cl 4 8 [(4,.nilIface),(12,vp b),(16,.slice A l.length cap),(17,vi i),(19,vi (IntKind.i64.wrap ((i:Int)+1)))] [(⟨b,0,none⟩,.slice A l.length cap)] (hasC (ba 0) Zaa) ?_)));rw[hw];refine Xh0 ?_ 1 4;refine Bx 3 (Xa (some 20) _ (ZoM (blk b 279 [.slice A l.length cap,.int .i64 room]::H) (.slice A l.length cap) l i hil (by omega))) fun(r:AN)=>Br 1 2<|Xh0 ?_ 1 1
  exact Bs 0 (Xz [(0,.slice r.1 ((l.take i++l.drop (i+1)).length) r.2)])<|endR<|Xq<|Xg 1<|Be<|Xv (Y0 (.nilIface) fun w hs=>⟨r,rfl,hs⟩)
def Zck (l:List (Int×Int))(id p:Int):Int×List (Int×Int):=if ZbG p=false then(10,l)else if Zb6 l id<0 then(13,l)else(0,Zd6 (p,id) (l.take (Zb6 l id).toNat++l.drop ((Zb6 l id).toNat+1)))
theorem SrtE.drop {l:List (Int×Int)}(h:SrtE l)(id:Int):SrtE (Zb7 l id).2:=by
 unfold Zb7;split
 ·exact h
 ·rw[←List.eraseIdx_eq_take_drop_succ];exact h.sublist (List.eraseIdx_sublist _ _)
theorem Zm7 (l:List (Int×Int))(id:Int):(Zb7 l id).2.length≤l.length:=by
 unfold Zb7;split
 ·exact Nat.le_refl _
 ·rw[←List.eraseIdx_eq_take_drop_succ];exact(List.eraseIdx_sublist _ _).length_le
theorem ZkE (H:List SP)(b:Nat)(A:Option Addr)(cap:Nat)(room:Int)(l:List (Int×Int))(id p:Int)(hsr:SrtE l)(hl:l.length<1000000):U1 149 #[vp b,vi id,vi p] (blk b 279 [.slice A l.length cap,vi room]::row slE 230 (.slice A l.length cap) l::H) (ι:=AN) (fun _=>Zal (Zck l id p).1) fun x=>blk b 279 [.slice x.1 (Zck l id p).2.length x.2,vi room]::row slE 230 (.slice x.1 (Zck l id p).2.length x.2) (Zck l id p).2::H:=by
 refine eG func149 23 ?_;refine Xq<|Xg 1<|Be<|Xq<|Xq<|Xg 3<|Br 2 1<|Bs 1 (Xa (some 9) _ (Zfe _ p))<|Ce [(0,vp b),(1,vi id),(2,vi p),(6,.nilIface),(10,.bool (!(ZbG p)))] ?_;cases h1:(ZbG p)with
 | true=>
  refine cF<|Xk<|Xq<|Xq<|Xg 4<|Cr 2 2 [(0,vp b),(1,vi id),(2,vi p),(6,.nilIface),(12,vp b),(13,vi id)]<|Bx 1 (Xa (some 14) _ (ZhL _ b A cap room l id hl)) (fun(r:AN)=>?_);rcases Int.lt_or_le (Zb6 l id) 0 with h2|h2
  ·rw[show Zb7 l id=(13,l)by rw[Zb7,if_pos h2]]
   refine Be<|Xq<|Xg 2<|Be<|cT<|Xq<|Xg 2<|Ce [(0,vp b),(1,vi id),(2,vi p),(6,.iface 126 (vi 13))]<|Xv (Zab ?_);have hk2:Zck l id p=(13,l):=by rw[Zck,if_neg (by rw[h1];simp),if_pos h2]
   refine Y0 (.iface 126 (vi 13)) (fun w hs=>?_);rw[hk2];exact⟨r,rfl,hs⟩
  ·have hd0:(Zb7 l id).1=0:=by rw[Zb7,if_neg (by omega)]
   have hk2:Zck l id p=(0,Zd6 (p,id) (Zb7 l id).2):=by rw[Zck,if_neg (by rw[h1];simp),if_neg (by omega),Zb7,if_neg (by omega)]
   rw[hd0];refine Be<|Xq<|Xg 2<|Be<|cF<|Xk<|Xq<|Xg 5<|Br 1 4<|Bx 0 (Xa (some 22) _ (Zfg _ b r.1 r.2 room (Zb7 l id).2 p id (hsr.drop id) (Nat.lt_of_le_of_lt (Zm7 l id) hl))) fun(q:AN)=>endR<|Xq<|Xg 1<|Ce [(6,.nilIface)]<|Xv (Y0 (.nilIface) (fun w hs=>?_))
   rw[hk2];exact⟨q,rfl,hs⟩
 |false=>
  refine cT<|Xq<|Xg 2<|Ce [(0,vp b),(1,vi id),(2,vi p),(6,.iface 126 (vi 10))]<|Xv (Zab (Y0 (.iface 126 (vi 10)) (fun w hs=>?_)));rw[Zck,if_pos h1];exact⟨(A,cap),rfl,hs⟩
end Go.Proofs.YtfhkgohokbkgiaaGreatDoor
namespace Go.Proofs.YtfhkgohokbkgiaaGreatDoor
open Go.RowKit G Go.Lib
theorem ZjF :∀n:Fin 65,0≤len8 (n.val:Int)∧len8 (n.val:Int)≤7∧(12<n.val→len8 (n.val:Int)≠0):=by decide+kernel
theorem Zqs (w:World)(n:Int)(h0:0≤n)(h1:n≤64):Calls Tryz.prog 221 #[.int .u64 n] w fun e w'=>e= .returned (vi (len8 n))∧w'=w:=by
 have d1:decide (n≥4294967296)=false:=decide_eq_false (by omega);have d2:decide (n≥65536)=false:=decide_eq_false (by omega);have d3:decide (n≥256)=false:=decide_eq_false (by omega);have hb:=ZjF ⟨n.toNat,by omega⟩;rw[show((⟨n.toNat,by omega⟩:Fin 65).val:Int)=n by show(n.toNat:Int)=n;omega]at hb
 go_enter Tryz.func221,Tryz.ntmps221
 have hlt:n< (len8tab.size:Int):=by rw[len8tab_size];omega
 have hsz:n.toNat<len8tab.size:=by omega
 have he:((len8tab[n.toNat]).toNat:Int)=len8 n:=by
  unfold len8;rw[getElem?_pos len8tab n.toNat hsz];rfl
 go_wp2
 go_ret
 exact⟨rfl,rfl⟩
theorem ZkR (H:List SP)(n:Int)(h0:0≤n)(h1:n≤64):US 221 #[.int .u64 n] H (vi (len8 n)):=fun w hs=>
 (Zqs w n h0 h1).mono fun e w' ⟨he,hw⟩=>⟨(),he,hw▸hs⟩
theorem ZhU (H:List SP)(n:Int)(h0:0≤n)(h1:n≤64):US 188 #[.int .u64 n] H (vi (len8 n)):=by
 refine eG Tryz.func188 8 ?_;exact Xq<|Xg 1<|Be<|Xq<|cF<|Xk<|Xq<|Xg 3<|Br 2 1<|Bs 1 (Xa (some 7) _ (ZkR _ n h0 h1))<|Be<|Xv (Y0 (vi (len8 n)) fun w hs=>⟨(),rfl,hs⟩)
theorem SrtE.not {l:List (Int×Int)}(h:SrtE l){u v:Nat}{x y:Int×Int}(hu:l[u]? =some x)(hv:l[v]? =some y)(huv:u<v):decide (byI (y.1,y.2) (x.1,x.2)<0)=false:=
 decide_eq_false fun hl=>eLt_irrefl x (ZcL (h.at hu hv huv) ((Zns y x).1 hl))
theorem ZdF (H:List SP)(s:SV (Int×Int))(hk:KR H slE s)(hsr:SrtE s.l)(u v:Nat)(huv:u<v)(hv:v<s.l.length)(q:Value):US 256 #[.slice s.a s.l.length s.c,vi u,vi v,q,.func (.func 194) #[] #[]] H (.tuple #[vi u,vi v]):=by
 obtain⟨x,hx⟩:∃x,s.l[u]? =some x:=⟨s.l[u]'(by omega),by simp⟩
 obtain⟨y,hy⟩:∃y,s.l[v]? =some y:=⟨s.l[v]'(by omega),by simp⟩
 refine eG Tryz.func256 32 ?_;refine PT.know ((hk).isSome (List.ne_nil_of_length_pos (by omega))) ?_;rintro⟨sb,so,hA⟩
 try rw[hA]
 refine Xq<|Xg 2<|Be<|Xq<|Xq<|Xy0 0 [] 11<|At' [0,1,2,5,6] [] Zaa<|Xu 3 (Xi 277 (.tmp 13) (.tmp 14) sb so s.l.length s.c v 2 230 (v:Int) 15 Tryz.underlying277)<|At' [4] [(⟨sb,so+v*2,none⟩,vi y.1),(⟨sb,so+v*2+1,none⟩,vi y.2)] (hasC (hk.cell hA (i:=v) (x:=y) hy (j:=0) rfl) (hasC (hk.cell hA (i:=v) (x:=y) hy (j:=1) rfl) Zaa))<|Xu 7 (Xi 277 (.tmp 17) (.tmp 18) sb so s.l.length s.c u 2 230 (u:Int) 19 Tryz.underlying277)<|At' [8] [(⟨sb,so+u*2,none⟩,vi x.1),(⟨sb,so+u*2+1,none⟩,vi x.2)] (hasC (hk.cell hA (i:=u) (x:=x) hx (j:=0) rfl) (hasC (hk.cell hA (i:=u) (x:=x) hx (j:=1) rfl) Zaa))<|Yo 9 (Xa (some 21) _ (Zfr _ y.1 y.2 x.1 x.2))<|Xt [10] [(1,vi u),(2,vi v),(3,q),(10,vi 0),(11,vi 0),(22,.bool (decide ((byI (y.1,y.2) (x.1,x.2))<0)))] [] Zaa<|Xd ?_;rw[hsr.not hx hy huv];exact cF<|Xk<|Xq<|Xg 4<|Be<|Xv (Y0 (.tuple #[vi u,vi v]) fun w hs=>⟨(),rfl,hs⟩)
theorem ZdH (H:List SP)(s:SV (Int×Int))(hk:KR H slE s)(hsr:SrtE s.l)(u v t:Nat)(huv:u<v)(hvt:v<t)(ht:t<s.l.length)(q:Value):US 253 #[.slice s.a s.l.length s.c,vi u,vi v,vi t,q,.func (.func 194) #[] #[]] H (vi v):=by
 refine eG Tryz.func253 41 ?_;exact Xq<|Xg 1<|Be<|Xq<|Xg 11<|Br 6 5<|Bs 5 (Xa (some 19) _ (ZdF _ s hk hsr u v huv (by omega) q))<|Be<|Xq<|Xg 11<|Br 6 5<|Bs 5 (Xa (some 28) _ (ZdF _ s hk hsr v t hvt ht q))<|Be<|Xq<|Xg 11<|Br 6 5<|Bs 5 (Xa (some 37) _ (ZdF _ s hk hsr u v huv (by omega) q))<|Be<|Xq<|Xg 2<|Be<|Xv (Y0 (vi v) fun w hs=>⟨(),rfl,hs⟩)
theorem ZcA (H:List SP)(s:SV (Int×Int))(hk:KR H slE s)(hsr:SrtE s.l)(v:Nat)(hv0:0<v)(hv:v+1<s.l.length)(hl:s.l.length<1000000)(q:Value):US 252 #[.slice s.a s.l.length s.c,vi v,q,.func (.func 194) #[] #[]] H (vi v):=by
 refine eG Tryz.func252 18 ?_;refine Xq<|Xg 1<|Be<|Xq (Xg 10 (Cr 2 8 [(8,vi 0),(9,.slice s.a s.l.length s.c),(11,vi (IntKind.i64.wrap ((v:Int)-1))),(12,vi v),(14,vi (IntKind.i64.wrap ((v:Int)+1))),(15,q),(16,.func (.func 194) #[] #[])] ?_));rw[show IntKind.i64.wrap ((v:Int)-1)=((v-1:Nat):Int)by rw[IntKind.wrap_i64];omega,show IntKind.i64.wrap ((v:Int)+1)=((v+1:Nat):Int)by rw[IntKind.wrap_i64];omega];exact Bs 1 (Xa (some 17) _ (ZdH _ s hk hsr (v-1) v (v+1) (by omega) (by omega) hv q))<|Be<|Xv (Y0 (vi v) fun w hs=>⟨(),rfl,hs⟩)
theorem ZsL {n:Nat}(hn:n≤1000):IntKind.i64.wrap (Int.tdiv (n:Int) 4)=((n/4:Nat):Int):=by rw[Int.tdiv_eq_ediv_of_nonneg (by omega),IntKind.wrap_i64];omega
theorem ZkL (H:List SP)(s:SV (Int×Int))(hk:KR H slE s)(hsr:SrtE s.l)(hl:s.l.length≤64)(hl2:12<s.l.length):US 242 #[.slice s.a s.l.length s.c,vi 0,vi (s.l.length:Int),.func (.func 194) #[] #[]] H (.tuple #[vi ((s.l.length/4*2:Nat):Int),vi 1]):=by
 obtain⟨n,hn⟩:∃n,n=s.l.length:=⟨_,rfl⟩
 have hq:=ZsL (n:=n) (by omega);obtain⟨m,hm⟩:∃m,m=n/4:=⟨_,rfl⟩
 refine eG Tryz.func242 63 ?_;refine Xq<|Xg 2<|Be<|Xq<|Xg 4<|Be<|Xq<|Xg 1<|Bx 0 (Xn 3 [vi 0] (some 11) (fun b=>vp b)) fun b1=>endR<|Xq<|Xg 6<|Be<|Xq<|Xg 6<|Be<|Xq<|Xg 6<|Be<|Xq (Xq (Xg 2 (Ce [(11,vp b1),(0,.slice s.a s.l.length s.c),(3,.func (.func 194) #[] #[]),(8,vi 0),(9,vi 0),(10,vi (IntKind.i64.wrap ((s.l.length:Int)-0))),(12,vi (IntKind.i64.wrap (0+(IntKind.i64.wrap ((IntKind.i64.wrap (Int.tdiv (IntKind.i64.wrap ((s.l.length:Int)-0)) 4))*1))))),(13,vi (IntKind.i64.wrap (0+(IntKind.i64.wrap ((IntKind.i64.wrap (Int.tdiv (IntKind.i64.wrap ((s.l.length:Int)-0)) 4))*2))))),(14,vi (IntKind.i64.wrap (0+(IntKind.i64.wrap ((IntKind.i64.wrap (Int.tdiv (IntKind.i64.wrap ((s.l.length:Int)-0)) 4))*3))))),(34,.bool (decide ((IntKind.i64.wrap ((s.l.length:Int)-0))≥8)))] ?_)))
 rw[show IntKind.i64.wrap ((s.l.length:Int)-0)=(s.l.length:Int)by rw[IntKind.wrap_i64];omega,←hn,hq,←hm];rw[show IntKind.i64.wrap (0+IntKind.i64.wrap ((m:Int)*1))=(m:Int)by rw[IntKind.wrap_i64,IntKind.wrap_i64];omega,show IntKind.i64.wrap (0+IntKind.i64.wrap ((m:Int)*2))=((m*2:Nat):Int)by rw[IntKind.wrap_i64,IntKind.wrap_i64];omega,show IntKind.i64.wrap (0+IntKind.i64.wrap ((m:Int)*3))=((m*3:Nat):Int)by rw[IntKind.wrap_i64,IntKind.wrap_i64];omega];rw[hn];rw[show decide ((s.l.length:Int)≥8)=true from decide_eq_true (by omega)];refine cT<|Xq<|Xq<|Xg 2<|Be<|Xc (decide ((s.l.length:Int)≥50)) (fun h1=>?_) (fun h1=>?_)
 ·have h1':50≤s.l.length:=by have:=of_decide_eq_true h1;omega
  exact Xq<|Xg 5<|Br 2 3<|Bs 1 (Xa (some 40) _ (ZcA _ s hk.up hsr m (by omega) (by omega) (by omega) (vp b1)))<|Be<|Xq<|Xg 5<|Br 2 3<|Bs 1 (Xa (some 44) _ (ZcA _ s hk.up hsr (m*2) (by omega) (by omega) (by omega) (vp b1)))<|Be<|Xg 5<|Br 2 3<|Bs 1 (Xa (some 48) _ (ZcA _ s hk.up hsr (m*3) (by omega) (by omega) (by omega) (vp b1)))<|Be<|Xg 7<|Br 2 5<|Bs 1 (Xa (some 54) _ (ZdH _ s hk.up hsr m (m*2) (m*3) (by omega) (by omega) (by omega) (vp b1)))<|Be<|Xq<|Xg 1<|Bm [(⟨b1,0,none⟩,vi 0)] (hasC (ba 0) Zaa)<|Xb 0<|Xq<|Xg 2<|Be<|cT<|Xq<|Xg 3<|Be<|Xv (Zae (Y0 (.tuple #[vi ((m*2:Nat):Int),vi 1]) fun w hs=>⟨(),rfl,hs.tail⟩))
 ·exact Xk<|Xg 7<|Br 2 5<|Bs 1 (Xa (some 54) _ (ZdH _ s hk.up hsr m (m*2) (m*3) (by omega) (by omega) (by omega) (vp b1)))<|Be<|Xq<|Xg 1<|Bm [(⟨b1,0,none⟩,vi 0)] (hasC (ba 0) Zaa)<|Xb 0<|Xq<|Xg 2<|Be<|cT<|Xq<|Xg 3<|Be<|Xv (Zae (Y0 (.tuple #[vi ((m*2:Nat):Int),vi 1]) fun w hs=>⟨(),rfl,hs.tail⟩))
theorem Zhe (H:List SP)(s:SV (Int×Int))(hk:KR H slE s)(hsr:SrtE s.l)(hl:s.l.length≤64)(hl2:12<s.l.length):US 244 #[.slice s.a s.l.length s.c,vi 0,vi (s.l.length:Int),.func (.func 194) #[] #[]] H (.bool true):=by
 refine eG Tryz.func244 141 ?_;refine Xq<|Xg 1<|Be<|Xq<|Xg 3<|Be<|Xq<|Xq<|Xg 1<|Ce [(0,.slice s.a s.l.length s.c),(1,vi 0),(2,vi (s.l.length:Int)),(3,.func (.func 194) #[] #[]),(8,.bool false),(9,vi (IntKind.i64.wrap (0+1))),(10,vi 0)]<|Xb 0 ?_;rw[show IntKind.i64.wrap ((0:Int)+1)=1 from rfl];refine Xp [(0,.slice s.a s.l.length s.c),(1,vi 0),(2,vi (s.l.length:Int)),(3,.func (.func 194) #[] #[]),(8,.bool false),(9,vi 1),(10,vi 0)] (Xl0 (fun(x:Unit)=> [(0,.slice s.a s.l.length s.c),(1,vi 0),(2,vi (s.l.length:Int)),(3,.func (.func 194) #[] #[]),(8,.bool false),(9,vi 1),(10,vi 0)]) (fun k (x:Unit)=>k=0) 0 () Kr rfl ?_);rintro k x hk0;refine Xq<|Xq<|Xg 2<|Be<|cT<|Xk (Xq (Xb 1 (Xq (Xb 2 (Xp [(0,.slice s.a s.l.length s.c),(1,vi 0),(2,vi (s.l.length:Int)),(3,.func (.func 194) #[] #[]),(8,.bool false),(9,vi 1),(10,vi 0)] (Xl0 (fun(u:Nat)=> [(0,.slice s.a s.l.length s.c),(1,vi 0),(2,vi (s.l.length:Int)),(3,.func (.func 194) #[] #[]),(8,.bool false),(9,vi u),(10,vi 0)]) (fun k (u:Nat)=>k+u=s.l.length∧1≤u) (s.l.length-1) 1 Kr ⟨by omega,by omega⟩ ?_))))));rintro k2 u ⟨hku,hu1⟩;refine Xq<|Xq<|Xy0 0 [] 18<|Xt [0,1,2,3] [(0,.slice s.a s.l.length s.c),(1,vi 0),(2,vi (s.l.length:Int)),(3,.func (.func 194) #[] #[]),(8,.bool false),(9,vi u),(10,vi 0),(22,.bool (decide ((u:Int)< (s.l.length:Int))))] [] Zaa ?_;cases h1:(decide ((u:Int)< (s.l.length:Int)))with
 |true=>
  have hu:u<s.l.length:=by have:=of_decide_eq_true h1;omega
  obtain⟨x,hx⟩:∃x,s.l[u-1]? =some x:=⟨s.l[u-1]'(by omega),by simp⟩
  obtain⟨y,hy⟩:∃y,s.l[u]? =some y:=⟨s.l[u]'(by omega),by simp⟩
  refine PT.know ((hk).isSome (List.ne_nil_of_length_pos (by omega))) ?_;rintro⟨sb,so,hA⟩
  try rw[hA]
  refine At' [4,5,6,9,10,11] [] Zaa<|Xu 7 (Xi 277 (.tmp 24) (.tmp 25) sb so s.l.length s.c u 2 230 (u:Int) 26 Tryz.underlying277)<|Xt [8] [(0,.slice (some ⟨sb,so,none⟩) s.l.length s.c),(1,vi 0),(2,vi (s.l.length:Int)),(3,.func (.func 194) #[] #[]),(8,.bool false),(9,vi u),(10,vi 0),(22,.bool true),(23,.func (.func 194) #[] #[]),(28,.slice (some ⟨sb,so,none⟩) s.l.length s.c),(30,vi (IntKind.i64.wrap ((u:Int)-1))),(27,.agg #[vi y.1,vi y.2])] [(⟨sb,so+u*2,none⟩,vi y.1),(⟨sb,so+u*2+1,none⟩,vi y.2)] (hasC (hk.cell hA (i:=u) (x:=y) hy (j:=0) rfl) (hasC (hk.cell hA (i:=u) (x:=y) hy (j:=1) rfl) Zaa)) ?_;rw[show IntKind.i64.wrap ((u:Int)-1)=((u-1:Nat):Int)by rw[IntKind.wrap_i64];omega];refine Xu 12 (Xi 277 (.tmp 28) (.tmp 30) sb so s.l.length s.c (u-1) 2 230 ((u-1:Nat):Int) 31 Tryz.underlying277)<|At' [13] [(⟨sb,so+(u-1)*2,none⟩,vi x.1),(⟨sb,so+(u-1)*2+1,none⟩,vi x.2)] (hasC (hk.cell hA (i:=u-1) (x:=x) hx (j:=0) rfl) (hasC (hk.cell hA (i:=u-1) (x:=x) hx (j:=1) rfl) Zaa))<|Yo 14 (Xa (some 33) _ (Zfr _ y.1 y.2 x.1 x.2))<|Xt [15,16,17] [(0,.slice (some ⟨sb,so,none⟩) s.l.length s.c),(1,vi 0),(2,vi (s.l.length:Int)),(3,.func (.func 194) #[] #[]),(8,.bool false),(9,vi u),(10,vi 0),(36,.bool (!(decide ((byI (y.1,y.2) (x.1,x.2))<0))))] [] Zaa<|Xd ?_
  try rw[←hA]
  rw[hsr.not hx hy (by omega)];refine cT<|Xk (Xb 3 (Xg 3 (Ce [(0,.slice s.a s.l.length s.c),(1,vi 0),(2,vi (s.l.length:Int)),(3,.func (.func 194) #[] #[]),(8,.bool false),(9,vi (IntKind.i64.wrap ((u:Int)+1))),(10,vi 0)] ?_)));rw[show IntKind.i64.wrap ((u:Int)+1)=((u+1:Nat):Int)by rw[IntKind.wrap_i64];omega];exact gA (k2-1) (u+1) (by omega) ⟨by omega,by omega⟩
 |false=>
  have hu:u=s.l.length:=by have:=of_decide_eq_false h1;omega
  refine At' [4,5,6,7,8,9,10,11,12,13,14,15,16,17] [] Zaa<|Xd<|cF<|Xx 2 (Zao (Zao (Zax (Xq (Xq (Xg 3 (Ce [(0,.slice s.a s.l.length s.c),(1,vi 0),(2,vi (s.l.length:Int)),(3,.func (.func 194) #[] #[]),(8,.bool false),(9,vi u),(10,vi 0),(41,.bool ((u:Int)==(s.l.length:Int)))] ?_)))))));rw[show((u:Int)==(s.l.length:Int))=true by rw[hu];simp];exact cT<|Xq<|Xg 1<|Be<|Xv (Zab (Zae (Zab (Zab (Zae (Zab (Y0 (.bool true) fun w hs=>⟨(),rfl,hs⟩)))))))
theorem Zk5 (H:List SP)(s:SV (Int×Int))(hk:KR H slE s)(hsr:SrtE s.l)(hl:s.l.length≤64):US 239 #[.slice s.a s.l.length s.c,vi 0,vi (s.l.length:Int),.func (.func 194) #[] #[]] H (.tuple #[]):=by
 refine eG Tryz.func239 53 ?_;refine Xq<|Xg 3<|Ce [(0,.slice s.a s.l.length s.c),(1,vi 0),(2,vi (s.l.length:Int)),(3,.func (.func 194) #[] #[]),(8,vi (IntKind.i64.wrap (0+1)))]<|Xb 0 ?_;rw[show IntKind.i64.wrap ((0:Int)+1)=1 from rfl];refine Xp [(0,.slice s.a s.l.length s.c),(1,vi 0),(2,vi (s.l.length:Int)),(3,.func (.func 194) #[] #[]),(8,vi 1)] (Xl0 (fun(u:Nat)=> [(0,.slice s.a s.l.length s.c),(1,vi 0),(2,vi (s.l.length:Int)),(3,.func (.func 194) #[] #[]),(8,vi u)]) (fun k (u:Nat)=>k=s.l.length-u∧1≤u) (s.l.length-1) 1 Kr ⟨rfl,by omega⟩ ?_);rintro k u ⟨hku,hu1⟩;refine Xq<|Xq<|Xg 3<|Be<|Xc (decide ((u:Int)< (s.l.length:Int))) (fun h1=>?_) (fun h1=>?_)
 ·have hu:u<s.l.length:=by have:=of_decide_eq_true h1;omega
  obtain⟨x,hx⟩:∃x,s.l[u-1]? =some x:=⟨s.l[u-1]'(by omega),by simp⟩
  obtain⟨y,hy⟩:∃y,s.l[u]? =some y:=⟨s.l[u]'(by omega),by simp⟩
  refine Xk<|Xq<|Xb 1<|Xq<|Xg 2<|Be<|Xb 2 (Xp [(0,.slice s.a s.l.length s.c),(1,vi 0),(2,vi (s.l.length:Int)),(3,.func (.func 194) #[] #[]),(8,vi u),(9,vi u)] (Xl0 (fun(x:Unit)=> [(0,.slice s.a s.l.length s.c),(1,vi 0),(2,vi (s.l.length:Int)),(3,.func (.func 194) #[] #[]),(8,vi u),(9,vi u)]) (fun k (x:Unit)=>k=0) 0 () Kr rfl ?_));rintro k2 _ hk0;refine Xq<|Xq<|Xy0 0 [] 17<|Xt [0,1,2,3] [(0,.slice s.a s.l.length s.c),(1,vi 0),(2,vi (s.l.length:Int)),(3,.func (.func 194) #[] #[]),(8,vi u),(9,vi u),(21,.bool (decide ((u:Int)>0)))] [] Zaa ?_;rw[show decide ((u:Int)>0)=true by exact decide_eq_true (by omega)];refine PT.know ((hk).isSome (List.ne_nil_of_length_pos (by omega))) ?_;rintro⟨sb,so,hA⟩
  try rw[hA]
  refine At' [4,5,6,9,10,11] [] Zaa<|Xu 7 (Xi 277 (.tmp 23) (.tmp 24) sb so s.l.length s.c u 2 230 (u:Int) 25 Tryz.underlying277)<|Xt [8] [(0,.slice (some ⟨sb,so,none⟩) s.l.length s.c),(1,vi 0),(2,vi (s.l.length:Int)),(3,.func (.func 194) #[] #[]),(8,vi u),(9,vi u),(21,.bool true),(22,.func (.func 194) #[] #[]),(27,.slice (some ⟨sb,so,none⟩) s.l.length s.c),(29,vi (IntKind.i64.wrap ((u:Int)-1))),(26,.agg #[vi y.1,vi y.2])] [(⟨sb,so+u*2,none⟩,vi y.1),(⟨sb,so+u*2+1,none⟩,vi y.2)] (hasC (hk.cell hA (i:=u) (x:=y) hy (j:=0) rfl) (hasC (hk.cell hA (i:=u) (x:=y) hy (j:=1) rfl) Zaa)) ?_;rw[show IntKind.i64.wrap ((u:Int)-1)=((u-1:Nat):Int)by rw[IntKind.wrap_i64];omega];refine Xu 12 (Xi 277 (.tmp 27) (.tmp 29) sb so s.l.length s.c (u-1) 2 230 ((u-1:Nat):Int) 30 Tryz.underlying277)<|At' [13] [(⟨sb,so+(u-1)*2,none⟩,vi x.1),(⟨sb,so+(u-1)*2+1,none⟩,vi x.2)] (hasC (hk.cell hA (i:=u-1) (x:=x) hx (j:=0) rfl) (hasC (hk.cell hA (i:=u-1) (x:=x) hx (j:=1) rfl) Zaa))<|Yo 14 (Xa (some 32) _ (Zfr _ y.1 y.2 x.1 x.2))<|Xt [15,16] [(0,.slice (some ⟨sb,so,none⟩) s.l.length s.c),(1,vi 0),(2,vi (s.l.length:Int)),(3,.func (.func 194) #[] #[]),(8,vi u),(9,vi u),(34,.bool (decide ((byI (y.1,y.2) (x.1,x.2))<0)))] [] Zaa<|Xd ?_
  try rw[←hA]
  rw[show decide ((byI (y.1,y.2) (x.1,x.2))<0)=false by exact hsr.not hx hy (by omega)];refine cF<|Xx 2 (Zao (Zao (Zax (Xg 3 (Ce [(0,.slice s.a s.l.length s.c),(1,vi 0),(2,vi (s.l.length:Int)),(3,.func (.func 194) #[] #[]),(8,vi (IntKind.i64.wrap ((u:Int)+1)))] ?_)))));rw[show IntKind.i64.wrap ((u:Int)+1)=((u+1:Nat):Int)by rw[IntKind.wrap_i64];omega];exact gA (k-1) (u+1) (by omega) ⟨by omega,by omega⟩
 ·exact Xx 0 (Zao (Zao (Zax (Y1 (.tuple #[]) fun w hs=>⟨(),rfl,hs⟩))))
theorem Zof (H:List SP)(s:SV (Int×Int))(lim:Int)(hlim:12<s.l.length→lim≠0)(hk:KR H slE s)(hsr:SrtE s.l)(hl:s.l.length≤64):US 224 #[.slice s.a s.l.length s.c,vi 0,vi (s.l.length:Int),vi lim,.func (.func 194) #[] #[]] H (.tuple #[]):=by
 refine eG Tryz.func224 148 ?_;refine Xq<|Xg 1<|Be<|Xq<|Xg 1<|Be<|Xb 0 (Xp [(0,.slice s.a s.l.length s.c),(1,vi 0),(2,vi (s.l.length:Int)),(3,vi lim),(4,.func (.func 194) #[] #[]),(10,.bool true),(11,.bool true)] (Xl0 (fun(x:Unit)=> [(0,.slice s.a s.l.length s.c),(1,vi 0),(2,vi (s.l.length:Int)),(3,vi lim),(4,.func (.func 194) #[] #[]),(10,.bool true),(11,.bool true)]) (fun k (x:Unit)=>k=0) 0 () Kr rfl ?_));rintro k _ hk0;refine Xb 1<|Xq<|Xg 4<|Be<|Xq (Xq (Xg 2 (Ce [(0,.slice s.a s.l.length s.c),(1,vi 0),(2,vi (s.l.length:Int)),(3,vi lim),(4,.func (.func 194) #[] #[]),(10,.bool true),(11,.bool true),(12,vi (IntKind.i64.wrap ((s.l.length:Int)-0))),(25,.bool (decide ((IntKind.i64.wrap ((s.l.length:Int)-0))≤12)))] ?_)));rw[show IntKind.i64.wrap ((s.l.length:Int)-0)=(s.l.length:Int)by rw[IntKind.wrap_i64];omega];refine Xc (decide ((s.l.length:Int)≤12)) (fun h1=>?_) (fun h1=>?_)
 ·exact Xq<|Xg 5<|Br 1 4<|Bs 0 (Xa (some 30) _ (Zk5 _ s hk hsr hl))<|endR<|Xv (Zab (Zae (Zab (Zae (Y0 (.tuple #[]) fun w hs=>⟨(),rfl,hs⟩)))))
 ·have hl2:12<s.l.length:=by have:=of_decide_eq_false h1;omega
  refine Xk (Xq (Xq (Xg 2 (Ce [(0,.slice s.a s.l.length s.c),(1,vi 0),(2,vi (s.l.length:Int)),(3,vi lim),(4,.func (.func 194) #[] #[]),(10,.bool true),(11,.bool true),(12,vi (s.l.length:Int)),(32,.bool (lim==0))] ?_))));rw[show(lim==0)=false from beq_eq_false_iff_ne.2 (hlim hl2)];exact cF<|Xk<|Xq<|Xq<|Xg 2<|Be<|cF<|Xk<|Xq<|Xg 10<|Br 6 4<|Bs 5 (Xa (some 52) _ (ZkL _ s hk hsr hl hl2))<|Be<|Xq<|Xq<|Xg 2<|Be<|cF<|Xk<|Xq<|Xq<|Xg 8<|Be<|cT<|Xq<|Xg 5<|Br 1 4<|Bs 0 (Xa (some 80) _ (Zhe _ s hk hsr hl hl2))<|endR<|cT<|Xv (Zab (Zae (Zab (Zae (Y0 (.tuple #[]) fun w hs=>⟨(),rfl,hs⟩)))))
theorem ZlN (H:List SP)(s:SV (Int×Int))(hk:KR H slE s)(hsr:SrtE s.l)(hl:s.l.length≤64):US 193 #[.slice s.a s.l.length s.c,.func (.func 194) #[] #[]] H (.tuple #[]):=by
 refine eG Tryz.func193 14 ?_;refine Xq<|Xg 3<|Be<|Xg 7 (Cr 3 4 [(1,.func (.func 194) #[] #[]),(7,.slice s.a s.l.length s.c),(8,vi (s.l.length:Int)),(10,.int .u64 (IntKind.u64.wrap (s.l.length:Int)))] ?_);rw[show IntKind.u64.wrap (s.l.length:Int)=(s.l.length:Int)by rw[IntKind.wrap_u64];omega];refine Bs 2 (Xa (some 11) _ (ZhU _ (s.l.length:Int) (by omega) (by omega)))<|Br 1 1<|Bs 0 (Xa (some 13) _ (Zof _ s (len8 (s.l.length:Int)) (fun h=>by have:=(ZjF ⟨s.l.length,by omega⟩).2.2 h;exact this) hk hsr hl))<|endR<|Y1 (.tuple #[]) (fun w hs=>?_);exact⟨(),rfl,hs⟩
end Go.Proofs.YtfhkgohokbkgiaaGreatDoor
