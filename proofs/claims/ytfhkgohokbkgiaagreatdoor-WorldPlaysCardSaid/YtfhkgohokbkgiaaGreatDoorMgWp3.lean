/- Texts put together: The program's timers at rows of sleepers (tmE): walks. Timers as one part of memory: their operations. A kernel as one part of memory; thread, Runnable, Run, Sleep, Exit, Wait, Signal. A kernel: Wait, Signal, Weight, Nodes, count. A kernel: count, adds, Spawn, Group. A kernel: Spawn, Group, Wake. A kernel: New. A world's actions, plainly. Sums of whole numbers as floats, as complex numbers. A ledger as one part of memory: its operations. A kernel: Wake. A kernel: Threads. A kernel as one part of memory: what its operations make of it. A kernel: Weight. A world as one part of memory: its parts. A world: what it tells of its parts; threads. A world: stat, audit, send, receive, level, plan. A world: audit, send. A world: threads, Zbc. A world: does, Zbc. errors.As of numbered errors, at a variable of their type: its walk. A world: Act. A world: Epoch, New. A world: New. A kernel's next number, behind each operation. A world's bounds; its actions as contracts. tontinehelp.Base. Comparing structs of whole numbers and bools. tontinelaw21.known. tontinelaw10.ready. Conditions: none. -/
import Derived.Test.YtfhkgohokbkgiaaGreatDoorMgWp2
import Derived.LaidEql
import Derived.Stop.Asserts
import Derived.RowKitTokens
import Derived.LaidHandle
import Derived.ChangeKeysEq
set_option linter.unusedSimpArgs false
set_option linter.unusedVariables false
set_option maxRecDepth 100000
set_option maxHeartbeats 4000000
namespace Go.Proofs.YtfhkgohokbkgiaaGreatDoor
open Go.RowKit
def ZpB (w:World)(F:Nat→Prop)(p:Value)(l:List (Int×Int)):Prop:=PsAt tmE 217 219 w F p l
def Zj4 (F:Nat→Prop)(w:World)(p R:Value)(l:List (Int×Int))(e:Ending)(w':World):Prop:=ZpD tmE 217 219 F w p R l e w'
theorem Zhd (w :World) (b:Nat) (ao:Option Addr) (c:Nat) (l:List (Int×Int)) (id:Int) (h:w.cell? ⟨b,0,none⟩=some (.slice ao l.length c)) (hr:Rd tmE w (.slice ao l.length c) l) (hn:l.length≤1000000000):
    Calls Tryz.prog 201 #[.pointer (some ⟨b,0,none⟩),.int .i64 id] w fun e w'=>e= .returned (.tuple #[.int .i64 (ZaN id l).1,.bool (ZaN id l).2])∧w=w':=by
  go_enter Tryz.func201,Tryz.ntmps201
  go_wp2
  refine Zj9 0 (fun n a' w'=>w=w'∧∃(k:Nat),k≤l.length∧n=l.length-k∧Hid ((ZaN id l).1=(ZaN id (l.drop k)).1+k∧(ZaN id l).2=(ZaN id (l.drop k)).2)∧∃(u2 u3 u7 u8 u9 u10 u11 u12 u13 u14 u15 u16 u17 u18 u19 u20 u21 u22 u23 u24 u25 u26 u27 u28 u29 u30 u31 u32 u33 u34 u35 u36 u37 u38 u39:Value),a'={tmps:= #[.pointer (some ⟨b,0,none⟩),.int .i64 id,u2,u3,.int .i64 0,.bool false,.int .i64 k,u7,u8,u9,u10,u11,u12,u13,u14,u15,u16,u17,u18,u19,u20,u21,u22,u23,u24,u25,u26,u27,u28,u29,u30,u31,u32,u33,u34,u35,u36,u37,u38,u39],defers:=[]}) rfl ?_ ?_
  · rintro n a' w' ⟨rfl,k,hk,rfl,hH,_,_,_,_,_,_,_,_,_,_,_,_,_,_,_,_,_,_,_,_,_,_,_,_,_,_,_,_,_,_,_,_,_,_,_,rfl⟩ K hK
    by_cases hlt:k<l.length
    · obtain⟨sb,o,c',hv,_,_,hcell⟩:=hr.at hlt
      cases hv;have hx:l[k]? =some l[k]:=by simp[hlt]
      have h0:w.cell? ⟨sb,o+k*2,none⟩=some (.int .i64 l[k].1):=hcell k 0 l[k] _ hx rfl;have hne:((k:Int)==(l.length:Int))=false:=by simp;omega
      have hd:l.drop k=l[k]::l.drop (k+1):=List.drop_eq_getElem_cons hlt;rw[hd]at hH;have HD:=Lib.hid hd;clear hd hcell
      go_wp2
      · have hlt':id<l[k].1:=by assumption
        simp only[Exit.jump]
        go_wp2
        go_ret2
        have:=hH.out;simp only[ZaN,if_pos hlt']at this;exact⟨by rw[this.1,this.2];simp,rfl⟩
      · have hle:l[k].1≤id:=by assumption
        have heq:(l[k].1==id)=true:=by assumption
        simp only[Exit.jump]
        go_wp2
        go_ret2
        have:=hH.out;simp only[ZaN,if_neg (show¬id<l[k].1 by omega),if_pos (beq_iff_eq.1 heq)]at this;exact⟨by rw[this.1,this.2];simp,rfl⟩
      · have hle:l[k].1≤id:=by assumption
        have heq:(l[k].1==id)=false:=by assumption
        have:=hH.out;simp only[ZaN,if_neg (show¬id<l[k].1 by omega),if_neg (beq_eq_false_iff_ne.1 heq)]at this
        go_step3
        refine⟨rfl,hK _ _ ⟨l.length- (k+1),by omega,rfl,k+1,hlt,rfl,⟨by rw[this.1];omega,this.2⟩,?_⟩⟩
        (repeat apply Exists.intro)
        rfl
    · have hke:k=l.length:=by omega
      subst hke;have hH':=hH.out;simp only[List.drop_length,ZaN,Nat.zero_add]at hH';have HH:=Lib.hid hH';clear hH'
      go_wp2
      simp only[Exit.jump]
      go_wp2
      go_ret2
      exact⟨by rw[HH.out.1,HH.out.2];simp,rfl⟩
  · intro K hK
    go_wp2
    go_step3
    go_step
    go_step
    refine hK _ _ _ ⟨rfl,0,Nat.zero_le _,rfl,⟨by simp,by simp⟩,?_⟩
    (repeat apply Exists.intro)
    rfl
theorem Zrj (w :World) (F:Nat→Prop) (p:Value) (l:List (Int×Int)) (id u:Int) (h:ZpB w F p l) (hn:l.length≤1000000000):
    Calls Tryz.prog 182 #[p,.int .i64 id,.int .i64 u] w (Zj4 F w p (.tuple #[]) (Zbq id u l)):=by
  obtain⟨b,sv,G,rfl,hb,hr,hnb,rfl⟩:=h;obtain⟨ao,c,rfl,hlc⟩:=row_form hr;have h0:w.cell? ⟨b,0,none⟩=some (.slice ao l.length c):=hb.cell 0;have hf0:=hb.frozen 0;have hplace:=Zhd w b ao c l id h0 hr.rd hn;obtain⟨r,hR⟩:∃r,r=ZaN id l:=⟨_,rfl⟩
  have hle:=Zec id l;rw[←hR]at hplace hle;by_cases ht:r.2=true
  · obtain⟨x,hx,hxe,hset,_⟩:=ZcN id u l (hR▸ht)
    rw[←hR]at hx hset;have hi:r.1<l.length:=(gSs hx).1;obtain⟨sb,o,c',hv,_,_,hcell⟩:=hr.rd.at hi;cases hv;have h1:w.cell? ⟨sb,o+r.1*2+1,none⟩=some (.int .i64 x.2):=hcell r.1 1 x _ hx rfl;have hf1:w.frozen? ⟨sb,o+r.1*2+1,none⟩=false:=hr.frozen rfl _;have hnew:Zj4 (OrB (ZbN b) G) w (.pointer (some ⟨b,0,none⟩)) (.tuple #[]) (Zbq id u l) (.returned (.tuple #[])) (w.setCell ⟨sb,o+r.1*2+1,none⟩ (.int .i64 u)):=by
      have hG:G sb:=by
        rcases hr with⟨h,_⟩|⟨b',o',c',cur,h,rfl,_⟩
        · cases h
        · cases h;rfl
      have hup:Upd G w (w.setCell ⟨sb,o+r.1*2+1,none⟩ (.int .i64 u)):=Upd.setCell w _ _ hG;refine⟨OrB (ZbN b) G,rfl,⟨b,.slice (sA sb o) l.length c,G,rfl,hb.upd hup hnb,?_,hnb,rfl⟩,hup.mono (fun x _ hx=> .inr hx),fun x hx=> .inl hx⟩;rw[hset];exact Row.set (E:=tmE) (x':=(id,u)) hr hx (by show [Value.int .i64 id,.int .i64 u]=[Value.int .i64 x.1,.int .i64 u];rw[hxe]) (by decide)
    have hp:=Lib.hid hnew;have HP:=Lib.hid hplace;have HT:=Lib.hid ht;have hi':(r.1:Int)< (l.length:Int):=by omega
    clear hnew hplace hset hx hxe hR hcell hr ht
    go_enter Tryz.func182,Tryz.ntmps182
    go_wp2_with (go_at_call 201;refine HP.out.mono ?_;rintro e w' ⟨rfl,rfl⟩;rw[HT.out])
    go_end0
    exact hp.out
  · have ht':r.2=false:=by simpa using ht
    obtain⟨hset,_⟩:=ZdC id u l (hR▸ht');rw[←hR]at hset;have hins:=fun(W:World) (hW:Upd NoB w W) (yb:Nat) (hyb:Blk W yb 219 (tmE.enc (id,u))) (hlt:w.heap.size≤yb)=>ZrV W G (.slice ao l.length c) l (id,u) (hr.upd hW (fun x _ hx=>hx)) yb _ hyb (fun hx=>by have:=hr.lt _ hx;omega) r.1 hle hn
    rw[←hset]at hins;have HP:=Lib.hid hplace;have HT:=Lib.hid ht';have HI:=Lib.hid hins;have HB:=Lib.hid hb;have hbl:=hb.lt;have hnb':=Lib.hid hnb;have HGl:=Lib.hid hr.lt;clear hplace hset hR hr ht ht' hb hnb hins
    go_enter Tryz.func182,Tryz.ntmps182
    go_wp2_with (first
      |(go_at_call 201;refine HP.out.mono ?_;rintro e w' ⟨rfl,rfl⟩;rw[HT.out])
      |(go_at_call 207;refine(HI.out _ (Upd.alloc _ _ _) _ (Blk.new _ _ _) (Nat.le_refl _)).mono ?_;rintro e w' ⟨v',F',rfl,hr',hu',hF'⟩;obtain⟨ao',c',rfl,_⟩:=row_form hr';have hb2:=(HB.out.upd (Upd.alloc NoB _ _) (fun x=>x)).upd hu' hnb'.out;have hc2:w'.cell? ⟨b,0,none⟩=some (.slice ao l.length c):=hb2.cell 0;have hf2:=hb2.frozen 0;have HR':=Lib.hid hr';have HU':=Lib.hid hu';have HF':=Lib.hid hF';have HB2:=Lib.hid hb2;clear hr' hu' hF' hb2))
    go_end0
    have hup:Upd G w w':=(Upd.alloc NoB w _|>.mono (fun x _ hx=>hx.elim)).trans HU'.out;have hFb:¬F' b:=fun hx=>by
      rcases HF'.out b hx with h|h
      · exact hnb'.out h
      · simp at h;omega
    refine⟨OrB (ZbN b) F',rfl,⟨b,_,F',rfl,HB2.out.set 0 _,HR'.out.upd (Upd.setCell (F:=ZbN b) w' _ _ rfl) (fun x hx hxb=>hFb (by cases hxb;exact hx)),hFb,rfl⟩,(hup.mono (fun x _ hx=> .inr hx)).trans (Upd.setCell w' _ _ (.inl rfl)),?_⟩;rintro x (rfl|hx)
    · exact .inl (.inl rfl)
    · rcases HF'.out x hx with h|h
      · exact .inl (.inr h)
      · exact .inr (by simp at h;omega)
theorem ZpN (w:World)(F:Nat→Prop)(p:Value)(l:List (Int×Int))(id:Int)(h:ZpB w F p l)(hn:l.length≤1000000000):
  Calls Tryz.prog 179 #[p,.int .i64 id] w (Zj4 F w p (.bool (ZaN id l).2) (Zbi id l)):=by
 have h':=h;obtain⟨b,sv,G,rfl,hb,hr,hnb,rfl⟩:=h;obtain⟨ao,c,rfl,hlc⟩:=row_form hr;have h0:w.cell? ⟨b,0,none⟩=some (.slice ao l.length c):=hb.cell 0;have hf0:=hb.frozen 0;have hplace:=Zhd w b ao c l id h0 hr.rd hn;obtain⟨r,hR⟩:∃r,r=ZaN id l:=⟨_,rfl⟩
 have hle:=Zec id l;rw[←hR]at hplace hle ⊢;by_cases ht:r.2=true
 ·obtain⟨x,hx,hxe,_,hdr⟩:=ZcN id 0 l (hR▸ht)
  rw[←hR]at hx hdr;have hi:r.1<l.length:=(gSs hx).1;have hdel:=Zr9 w G (.slice ao l.length c) l hr r.1 hi hn;rw[←hdr]at hdel;have HP:=Lib.hid hplace;have HT:=Lib.hid ht;have HD:=Lib.hid hdel;have HB:=Lib.hid hb;have hnb':=Lib.hid hnb;clear hplace hdr hx hxe hR hr ht hdel hb hnb h'
  go_enter Tryz.func179,Tryz.ntmps179
  go_wp2_with (first
   |(go_at_call 201;refine HP.out.mono ?_;rintro e w' ⟨rfl,rfl⟩;rw[HT.out])
   |(go_at_call 202;refine HD.out.mono ?_;rintro e w' ⟨v',F',rfl,hr',hu',hF'⟩;obtain⟨ao',c',rfl,_⟩:=row_form hr';have hb2:=HB.out.upd hu' hnb'.out;have hc2:w'.cell? ⟨b,0,none⟩=some (.slice ao l.length c):=hb2.cell 0;have hf2:=hb2.frozen 0;have HN:=Lib.hid (fun R=>PsAt.put HB.out hnb'.out hu' hr' hF' R);clear hr' hu' hF' hb2))
  go_ret
  rw[HT.out];exact HN.out _
 ·have ht':r.2=false:=by simpa using ht
  obtain⟨_,hdr⟩:=ZdC id 0 l (hR▸ht');rw[hdr];have HP:=Lib.hid hplace;have HT:=Lib.hid ht';have HH:=Lib.hid h';clear hplace hdr hR hr ht ht' hb hnb h'
  go_enter Tryz.func179,Tryz.ntmps179
  go_wp2_with (go_at_call 201;refine HP.out.mono ?_;rintro e w' ⟨rfl,rfl⟩;rw[HT.out])
  go_ret
  rw[HT.out];exact⟨_,rfl,HH.out,Upd.refl _ _,fun x hx=> .inl hx⟩
theorem Zrk (w:World):Calls Tryz.prog 78 #[] w fun e w'=>e= .returned (.pointer (some ⟨w.heap.size,0,none⟩))∧w'=w.alloc (.cells #[.slice none 0 0] 217 (0,0)):=by
 go_enter Tryz.func78,Tryz.ntmps78
 go_wp2
 go_ret
 exact⟨rfl,rfl⟩
theorem ZlL (w:World):ZpB (w.alloc (.cells #[.slice none 0 0] 217 (0,0))) (OrB (ZbN w.heap.size) NoB) (.pointer (some ⟨w.heap.size,0,none⟩)) []:=
 ⟨w.heap.size,_,NoB,rfl,Blk.new w _ [_],Row.nil _ _ _,fun h=>h,rfl⟩
theorem ZoE :(Tryz.prog.info? 3).map (fun i=>(i.zero,i.size,i.bytes))=some (some (.int .i64 0),1,8):=by kernel_rfl
theorem ZqM :Ety Tryz.prog Zm1 3 (.int .i64 0):=by
 obtain⟨i,hi,hz,hs,hb⟩:=info_parts ZoE;exact⟨⟨i,hi,hz,hs,by omega⟩,rfl⟩
def ZnB (w:World)(l:List (Int×Int))(t:Int)(n:Nat)(v r i:Value)(wr:World):Prop:=
 ∃(k:Nat) (F1 F2:Nat→Prop),k≤n∧i= .int .i64 k∧Row Zm1 3 wr F1 v (Zbf t (l.take k))∧Row tmE 219 wr F2 r (ZaU t (l.take k))∧(∀x,F1 x→w.heap.size≤x∧¬F2 x)∧(∀x,F2 x→w.heap.size≤x)∧Upd NoB w wr
theorem Zmx (w:World)(o:Obj)(T':TypeId)(cs:List Value):Blk ((w.alloc o).alloc (.cells cs.toArray T')) (w.heap.size+1) T' cs:=by
 have:=Blk.new (w.alloc o) T' cs;simpa using this
theorem ZlH (w:World)(o o':Obj):Upd NoB w ((w.alloc o).alloc o'):=(Upd.alloc _ _ _).trans (Upd.alloc _ _ _)
theorem Zrl (w : World) (F:Nat→Prop) (p:Value) (l:List (Int×Int)) (t:Int) (h:ZpB w F p l) (hn:l.length≤1000000000):
    Calls Tryz.prog 59 #[p,.int .i64 t] w fun e w'=>∃v F' G,e= .returned v∧ZpB w' F' p (ZaU t l)∧Upd F w w'∧(∀b,F' b→F b∨w.heap.size≤b)∧Row Zm1 3 w' G v (Zbf t l)∧∀x,G x→w.heap.size≤x∧¬F' x:=by
  obtain⟨b,sv,G,rfl,hb,hr,hnb,rfl⟩:=h;obtain⟨ao,c,rfl,hlc⟩:=row_form hr;have h0:w.cell? ⟨b,0,none⟩=some (.slice ao l.length c):=hb.cell 0;have hf0:=hb.frozen 0;have hbl:=hb.lt;have hrd:=hr.rd;have hgl:=hr.lt;obtain⟨n,hN⟩:∃n,n=l.length:=⟨_,rfl⟩
  rw[←hN]at h0 hlc hn hrd hr;have HB:=Lib.hid hb;have HR:=Lib.hid hr;have HNB:=Lib.hid hnb;have HRD:=Lib.hid hrd;have HN:=Lib.hid hN;have HGL:=Lib.hid hgl;clear hb hr hnb hrd hN hgl
  go_enter Tryz.func59,Tryz.ntmps59
  go_wp2
  go_loopw [5,6,14] (ZnB w l t n) (fun _ _ i _=>n- (intOf i).toNat)
  case atStart=>exact⟨0,NoB,NoB,Nat.zero_le _,rfl,Row.nil _ _ _,Row.nil _ _ _,fun _ h=>h.elim,fun _ h=>h.elim,Upd.refl _ _⟩
  case round=>
    obtain⟨k,F1,F2,hk,rfl,hr1,hr2,hd1,hd2,hU⟩:=hrel;by_cases hlt:k<n
    · obtain⟨y,hy⟩:∃y,l[k]? =some y:=⟨l[k]'(by rw[←HN.out];exact hlt),by simp⟩
      obtain⟨sb,o,c',hv,_,_,hcell⟩:=Rd.at (E:=tmE) (xs:=l) (v:= .slice ao n c) (w:=w) (by have:=HRD.out;exact this) (i:=k) (by rw[←HN.out];exact hlt);rw[←HN.out]at hv;cases hv;have hsb:sb<w.heap.size:=HGL.out sb (by
        have hr:=HR.out;rcases hr with⟨h,_⟩|⟨b',o',c',cur,h,rfl,hh,_⟩
        · cases h
        · cases h;rfl)
      have g0:wr.cell? ⟨sb,o+k*2,none⟩=some (.int .i64 y.1):=(World.cell?_of_block (w:=w) (a:=⟨sb,_,none⟩) (hU.keep sb hsb (fun x=>x))).trans (hcell k 0 y _ hy rfl);have g1:wr.cell? ⟨sb,o+k*2+1,none⟩=some (.int .i64 y.2):=(World.cell?_of_block (w:=w) (a:=⟨sb,_,none⟩) (hU.keep sb hsb (fun x=>x))).trans (hcell k 1 y _ hy rfl);obtain⟨hs1,hs2⟩:=ZjW t l k y hy;have hlen:=ZqP t l k;have hl1:=hlen.1;have hl2:=hlen.2;obtain⟨v1,w1,G1,ha1,hb1,hc1,hd1'⟩:=Znw (ty:=42) (x:=y.1) Tryz.underlying42 ZqM hr1 (by omega) (ZlH wr (.cells #[.int .i64 y.1,.int .i64 y.2] 219) _) (Zmx _ _ 3 (Zm1.enc y.1));obtain⟨v2,w2,G2,ha2,hb2,hc2,hd2'⟩:=Znw (ty:=215) (x:=y) Tryz.underlying215 Zgw hr2 (by omega) (ZlH wr (.cells #[.int .i64 y.1,.int .i64 y.2] 219) _) (Zmx _ _ 219 (tmE.enc y));have hsz:=hU.size;by_cases hyt:y.2≤t
      · obtain⟨e1,e2⟩:=hs1 hyt
        have hfin:ZnB w l t n v1 u6 (.int .i64 ((k:Int)+1)) w1:=by
          refine⟨k+1,G1,F2,hlt,by go_num,by rw[e1];exact hb1,by rw[e2];exact hr2.upd hc1 (fun x hx hx'=>(hd1 x hx').2 hx),?_,hd2,hU.then hc1 (fun x hx hx'=>by have:=(hd1 x hx').1;omega)⟩;intro x hx;rcases hd1' x hx with h|h
          · exact hd1 x h
          · exact⟨by omega,fun h2=>by have:=hr2.lt x h2;omega⟩
        have HA:=Lib.hid ha1;have HFIN:=Lib.hid hfin;clear hs1 hs2 hlen ha1 ha2 hb1 hb2 hc1 hc2 hd1' hd2' hr1 hr2 hd1 hd2 hU hy hcell e1 e2 hfin hl1 hl2
        go_wp2_with (at_builtin;refine ZaT ⟨rfl,rfl,rfl,rfl⟩ HA.out ?_)
        exact⟨HFIN.out,by simp[intOf];omega⟩
      · obtain⟨e1,e2⟩:=hs2 (by omega)
        have hfin:ZnB w l t n u5 v2 (.int .i64 ((k:Int)+1)) w2:=by
          refine⟨k+1,F1,G2,hlt,by go_num,by rw[e1];exact hr1.upd hc2 (fun x hx hx'=>(hd1 x hx).2 hx'),by rw[e2];exact hb2,?_,?_,hU.then hc2 (fun x hx hx'=>by have:=hd2 x hx';omega)⟩
          · intro x hx
            refine⟨(hd1 x hx).1,fun h2=>?_⟩;rcases hd2' x h2 with h|h
            · exact(hd1 x hx).2 h
            · have:=hr1.lt x hx;omega
          · intro x hx
            rcases hd2' x hx with h|h
            · exact hd2 x h
            · omega
        have HA:=Lib.hid ha2;have HFIN:=Lib.hid hfin;clear hs1 hs2 hlen ha1 ha2 hb1 hb2 hc1 hc2 hd1' hd2' hr1 hr2 hd1 hd2 hU hy hcell e1 e2 hfin hl1 hl2
        go_wp2_with (at_builtin;refine ZaT ⟨rfl,rfl,rfl,rfl⟩ HA.out ?_)
        exact⟨HFIN.out,by simp[intOf];omega⟩
    · have hke:k=n:=by omega
      subst hke;have hbb:=(HB.out.upd hU (fun x=>x))
      have gc:wr.cell? ⟨b,0,none⟩=some (.slice ao k c):=by rw[HN.out];exact hbb.cell 0
      have gf:=hbb.frozen 0;rw[List.take_of_length_le (by rw[HN.out];exact Nat.le_refl _)]at hr1 hr2;obtain⟨ao2,c2,rfl,_⟩:=row_form hr2;have hfin:∃F',ZpB (wr.setCell ⟨b,0,none⟩ (.slice ao2 (ZaU t l).length c2)) F' (.pointer (some ⟨b,0,none⟩)) (ZaU t l)∧Upd (OrB (ZbN b) G) w (wr.setCell ⟨b,0,none⟩ (.slice ao2 (ZaU t l).length c2))∧(∀x,F' x→OrB (ZbN b) G x∨w.heap.size≤x)∧∃H,Row Zm1 3 (wr.setCell ⟨b,0,none⟩ (.slice ao2 (ZaU t l).length c2)) H u5 (Zbf t l)∧∀x,H x→w.heap.size≤x∧¬F' x:=by
        have hF2:¬F2 b:=fun h=>by have:=hd2 b h;omega
        refine⟨OrB (ZbN b) F2,⟨b,_,F2,rfl,(HB.out.upd hU (fun x=>x)).set 0 _,hr2.upd (Upd.setCell (F:=ZbN b) wr _ _ rfl) (fun x hx hxb=>hF2 (by cases hxb;exact hx)),hF2,rfl⟩,(hU.mono (fun x _ hx=>hx.elim)).trans (Upd.setCell wr _ _ (.inl rfl)),?_,F1,hr1.upd (Upd.setCell (F:=ZbN b) wr _ _ rfl) (fun x hx hxb=>by cases hxb;have:=(hd1 _ hx).1;omega),fun x hx=>⟨(hd1 x hx).1,?_⟩⟩
        · rintro x (rfl|hx)
          · exact .inl (.inl rfl)
          · exact .inr (hd2 x hx)
        · rintro(rfl|hx')
          · have:=(hd1 _ hx).1;omega
          · exact(hd1 x hx).2 hx'
      have HFIN:=Lib.hid hfin;clear hfin hr1 hr2 hd1 hd2 hU hbb
      go_wp2
      go_ret
      obtain⟨F',h1,h2,h3,H,h4,h5⟩:=HFIN.out;exact⟨_,F',H,rfl,h1,h2,h3,h4,h5⟩
end Go.Proofs.YtfhkgohokbkgiaaGreatDoor
namespace Go.Proofs.YtfhkgohokbkgiaaGreatDoor
open Go.RowKit G Tryz
def tmS (b:Nat)(l:List (Int×Int)):SP:=⟨fun w F=>ZpB w F (.pointer (some ⟨b,0,none⟩)) l,fun h=>PsAt.lt h,fun {w w' F} h a=>by
 obtain⟨b',sv,G,hp,hb,hr,hn,rfl⟩:=h;refine⟨b',sv,G,hp,(a.keep b' (.inl rfl)).trans hb,?_,hn,rfl⟩;rcases hr with hr|⟨b2,o,c,cur,h1,rfl,hb2,r⟩
 ·exact .inl hr
 ·exact .inr ⟨b2,o,c,cur,h1,rfl,(a.keep b2 (.inr rfl)).trans hb2,r⟩⟩
section
variable (H :List SP)(b:Nat)(l:List (Int×Int))
theorem Zrh :U1 78 #[] H (ι:=Nat) (fun b=>vp b) fun b=>tmS b []::H:=fun w hs=>
 (Zrk w).mono fun e w' ⟨he,hw⟩=>by
  subst hw;exact⟨w.heap.size,he,hs.fresh (Upd.alloc _ _ _) (G':=OrB (ZbN w.heap.size) NoB) (ZlL w) (by
   rintro x (rfl|h)
   ·exact Nat.le_refl _
   ·exact h.elim)⟩
theorem Zpa {zs:List (Int×Int)}{f:FuncId}{vs:Array Value}{R:Value}(h:∀w F,ZpB w F (.pointer (some ⟨b,0,none⟩)) l→Calls Tryz.prog f vs w (Zj4 F w (.pointer (some ⟨b,0,none⟩)) R zs)):
  ∀w,Sat w (tmS b l::H)→Calls Tryz.prog f vs w (Ret (ι:=Unit) (fun _=>R) fun _=>tmS b zs::H):=by
 rintro w ⟨G,hG,_,h3⟩;refine(h w G hG).mono ?_;rintro e w' ⟨F',rfl,hr,hu,hf⟩;have hp:Sat w (ZsM (tmS b l) G::H):=⟨G,⟨hG,rfl⟩,fun _ _=>trivial,h3⟩
 exact⟨(),rfl,hp.change fun G' hG'=>by
  obtain⟨_,rfl⟩:=hG';exact⟨hu,F',hr,hf⟩⟩
theorem Zrg (id u:Int)(hn:l.length≤1000000000):U0 182 #[vp b,.int .i64 id,.int .i64 u] (tmS b l::H) (.tuple #[]) (tmS b (Zbq id u l)::H):=
 Zpa H b l fun w F h=>Zrj w F _ l id u h hn
theorem ZpM (id:Int)(hn:l.length≤1000000000):U0 179 #[vp b,.int .i64 id] (tmS b l::H) (.bool (ZaN id l).2) (tmS b (Zbi id l)::H):=
 Zpa H b l fun w F h=>ZpN w F _ l id h hn
theorem Zri (t:Int)(hn:l.length≤1000000000):U1 59 #[vp b,.int .i64 t] (tmS b l::H) (ι:=AN) (fun x=> .slice x.1 (Zbf t l).length x.2) fun x=>row (kE .i64) 3 (.slice x.1 (Zbf t l).length x.2) (Zbf t l)::tmS b (ZaU t l)::H:=by
 rintro w ⟨G,hG,_,h3⟩;refine(Zrl w G _ l t hG hn).mono ?_;rintro e w' ⟨v,F',K,rfl,g1,g2,g3,g4,g5⟩;have hp:Sat w (ZsM (tmS b l) G::H):=⟨G,⟨hG,rfl⟩,fun _ _=>trivial,h3⟩
 obtain⟨ao,c,rfl,_⟩:=row_form g4;refine⟨(ao,c),rfl,Sat.openTwo (hp.change fun G' hG'=>?_)⟩;obtain⟨_,rfl⟩:=hG';refine⟨g2,fun x=>K x∨F' x,⟨K,F',g4,g1,fun x hx=>(g5 x hx).2,fun x=>Iff.rfl⟩,?_⟩;rintro x (hx|hx)
 ·exact .inr (g5 x hx).1
 ·exact g3 x hx
end
def Zds (k:Nat)(s:KS):SP:=exS fun p:Nat×Nat×Nat=>two (Zcl (KOk s)) (Zaz [blk k 145 [.pointer (some ⟨p.1,0,none⟩),.pointer (some ⟨p.2.1,0,none⟩),.pointer (some ⟨p.2.2,0,none⟩),.int .i64 s.mt,.int .i64 s.mg,.int .i64 s.nx],Za4 p.1 s.N,tmS p.2.1 s.tm,ZcC p.2.2 s.ob])
theorem Sat.openKer {k:Nat}{s:KS}{H:List SP}{w:World}(h:Sat w (Zds k s::H)):∃t m o,KOk s∧Sat w (blk k 145 [.pointer (some ⟨t,0,none⟩),.pointer (some ⟨m,0,none⟩),.pointer (some ⟨o,0,none⟩),.int .i64 s.mt,.int .i64 s.mg,.int .i64 s.nx]::Za4 t s.N::tmS m s.tm::ZcC o s.ob::H):=by
 obtain⟨⟨t,m,o⟩,h⟩:=Sat.openEx h;obtain⟨h1,h⟩:=Sat.openPure (Sat.openTwo h);exact⟨t,m,o,h1,Sat.openMany h⟩
theorem Sat.closeKer {k t m o:Nat}{s:KS}{H:List SP}{w:World}(h1:KOk s)(h:Sat w (blk k 145 [.pointer (some ⟨t,0,none⟩),.pointer (some ⟨m,0,none⟩),.pointer (some ⟨o,0,none⟩),.int .i64 s.mt,.int .i64 s.mg,.int .i64 s.nx]::Za4 t s.N::tmS m s.tm::ZcC o s.ob::H)):Sat w (Zds k s::H):=
 Sat.closeEx (t,m,o) (Sat.closeTwo (Sat.closePure h1 (Sat.closeMany (l:=[blk k 145 [.pointer (some ⟨t,0,none⟩),.pointer (some ⟨m,0,none⟩),.pointer (some ⟨o,0,none⟩),.int .i64 s.mt,.int .i64 s.mg,.int .i64 s.nx],Za4 t s.N,tmS m s.tm,ZcC o s.ob]) h)))
theorem ZeJ :∀{l m:List Int},l.Nodup→(∀x∈l,x∈m)→l.length≤m.length
 | [],m,_,_=>by simp
 |a::l,m,h,hs=>by
  obtain⟨h1,h2⟩:=List.nodup_cons.1 h;have ha:a∈m:=hs a (by simp);have:=ZeJ (l:=l) (m:=m.erase a) h2 fun x hx=>(List.mem_erase_of_ne (by rintro rfl;exact h1 hx)).2 (hs x (by simp[hx]))
  rw[List.length_erase_of_mem ha]at this;have h3:0<m.length:=List.length_pos_of_mem ha;simp only[List.length_cons];omega
theorem Off.mem {N:List Nr}{i:Int}(h:Off N i):i∈N.map (·.id):=by
 obtain⟨x,hx,e,_⟩:=h;exact List.mem_map.2 ⟨x,hx,e⟩
theorem KOk.obb {s:KS}(h:KOk s):ObB s.ob:=fun o ho=>⟨(h.obc o ho).1,(h.obc o ho).2,by
 have h1:=ZeJ (h.obn o ho) (m:=s.N.map (·.id)) fun i hi=>(h.obo o ho i hi).mem
 have:=h.wf.sk.len;rw[List.length_map]at h1;omega⟩
theorem KOk.tml {s:KS}(h:KOk s):s.tm.length≤60:=by
 have h1:=ZeJ (l:=s.tm.map (·.1)) (m:=s.N.map (·.id)) (List.pairwise_map.2 (h.tm.imp fun {a b} hab=>by omega)) fun i hi=>by
  obtain⟨p,hp,rfl⟩:=List.mem_map.1 hi;exact(h.tmo p hp).mem
 have:=h.wf.sk.len;rw[List.length_map,List.length_map]at h1;omega
theorem ZdD (H:List SP)(k t m o:Nat)(s:KS)(id:Int):US 178 #[vp k,vi id] (blk k 145 [vp t,vp m,vp o,vi s.mt,vi s.mg,vi s.nx]::Za4 t s.N::tmS m s.tm::ZcC o s.ob::H) (.tuple #[.bool (isT s.N id),.bool (isR s.N id)]):=by
 refine eG func178 31 ?_;refine Xq<|Xg 2<|Be<|Xq<|Xg 12<|Cl 7 5 [(4,.bool false),(5,.bool false),(12,vp t),(13,vi id)] [(⟨k,0,none⟩,vp t)] (hasC (ba 0) Zaa)<|Bs 6 (Xa (some 14) (fun _=> .tuple #[.agg #[vi ((gt s.N id).getD ZbE).id,vi ((gt s.N id).getD ZbE).par,vi ((gt s.N id).getD ZbE).wt,vi ((gt s.N id).getD ZbE).pass,.bool ((gt s.N id).getD ZbE).thr,.bool ((gt s.N id).getD ZbE).rdy],.bool (gt s.N id).isSome]) (Zak 1 rfl (Zo6 _ t s.N id))) ?_;cases hg:gt s.N id with
 |none=>
  exact Br 3 3<|Bx 2 (Xn 147 [vi 0,vi 0,vi 0,vi 0,.bool false,.bool false] (some 6) (fun b=>vp b)) fun b1=>Bs 1 (Xz [(0,vi ZbE.id),(1,vi ZbE.par),(2,vi ZbE.wt),(3,vi ZbE.pass),(4,.bool ZbE.thr),(5,.bool ZbE.rdy)])<|Be<|Xq<|Xy0 0 [] 16<|At' [0,1,2,3,4,5,6,7,8,9,10,11,12,13,14,15] [] Zaa<|Xd (Xv (Y0 (.tuple #[.bool false,.bool false]) fun w hs=>⟨(),by simp only[isT,isR,hg];rfl,hs.tail⟩))
 | some x=>
  simp only[Option.getD_some,Option.isSome_some];cases ht:(x.thr)with
  |true=>
   refine Ar ?_ 3 3;exact Bx 2 (Xn 147 [vi 0,vi 0,vi 0,vi 0,.bool false,.bool false] (some 6) (fun b=>vp b)) fun b1=>Bs 1 (Xz [(0,vi x.id),(1,vi x.par),(2,vi x.wt),(3,vi x.pass),(4,.bool true),(5,.bool x.rdy)])<|Be<|Xq<|Xy0 0 [] 16<|At' [0,1,2,3,4,5,6,7,8,9,10,11,12,13,14,15] [(⟨b1,4,none⟩,.bool true),(⟨b1,4,none⟩,.bool true),(⟨b1,5,none⟩,.bool x.rdy)] (hasC (ba 0) (hasC (ba 0) (hasC (ba 0) Zaa)))<|Xd (Xv (Y0 (.tuple #[.bool true,.bool x.rdy]) fun w hs=>⟨(),by simp only[isT,isR,hg];simp[ht],hs.tail⟩))
  |false=>
   refine Ar ?_ 3 3;exact Bx 2 (Xn 147 [vi 0,vi 0,vi 0,vi 0,.bool false,.bool false] (some 6) (fun b=>vp b)) fun b1=>Bs 1 (Xz [(0,vi x.id),(1,vi x.par),(2,vi x.wt),(3,vi x.pass),(4,.bool false),(5,.bool x.rdy)])<|Be<|Xq<|Xy0 0 [] 16<|At' [0,1,2,3,4,5,6,7,8,9,10,11,12,13,14,15] [(⟨b1,4,none⟩,.bool false),(⟨b1,4,none⟩,.bool false)] (hasC (ba 0) (hasC (ba 0) Zaa))<|Xd (Xv (Y0 (.tuple #[.bool false,.bool false]) fun w hs=>⟨(),by simp only[isT,isR,hg];simp[ht],hs.tail⟩))
theorem ZmP (H:List SP)(k t m o:Nat)(s:KS):U0 33 #[vp k] (blk k 145 [vp t,vp m,vp o,vi s.mt,vi s.mg,vi s.nx]::Za4 t s.N::tmS m s.tm::ZcC o s.ob::H) (.tuple #[vi (ZaP s).1.1,.bool (ZaP s).1.2]) (blk k 145 [vp t,vp m,vp o,vi (ZaP s).2.mt,vi (ZaP s).2.mg,vi (ZaP s).2.nx]::Za4 t (ZaP s).2.N::tmS m (ZaP s).2.tm::ZcC o (ZaP s).2.ob::H):=by
 refine eG func33 11 ?_;exact Xq<|Xg 2<|Be<|Xq<|Xg 9<|Bl 5 4 [(⟨k,0,none⟩,vp t)] (hasC (ba 0) Zaa)<|Bs 4 (Xa (some 8) _ (Zak 1 rfl (ZsB _ t s.N)))<|Be<|Xv (Y0 (.tuple #[vi ((Zcd s.N).1.1),.bool ((Zcd s.N).1.2)]) fun w hs=>⟨(),rfl,hs⟩)
theorem ZiX (H:List SP)(k t m o:Nat)(s:KS)(hk:KOk s)(id u:Int):U0 131 #[vp k,vi id,vi u] (blk k 145 [vp t,vp m,vp o,vi s.mt,vi s.mg,vi s.nx]::Za4 t s.N::tmS m s.tm::ZcC o s.ob::H) (Zal (ZaY s id u).1) (blk k 145 [vp t,vp m,vp o,vi (ZaY s id u).2.mt,vi (ZaY s id u).2.mg,vi (ZaY s id u).2.nx]::Za4 t (ZaY s id u).2.N::tmS m (ZaY s id u).2.tm::ZcC o (ZaY s id u).2.ob::H):=by
 have htl:=hk.tml;refine eG func131 31 ?_;refine Xq<|Xg 1<|Be<|Xq<|Xq<|Xg 8<|Cr 6 2 [(0,vp k),(1,vi id),(2,vi u),(6,.nilIface),(10,vp k),(11,vi id)]<|Bs 5 (Xa (some 12) _ (ZdD _ k t m o s id)) ?_;cases hr:(isR s.N id)with
 |true=>
  have e:ZaY s id u=((Zag s.N id false).1,{s with N:=(Zag s.N id false).2,tm:=Zbq id u s.tm}):=by rw[ZaY,if_neg (by rw[hr];simp)]
  refine Be<|Xq<|Xg 2<|Be<|cF<|Xk<|Xq<|Xg 7<|Bl 1 6 [(⟨k,1,none⟩,vp m)] (hasC (ba 0) Zaa)<|Bs 0 (Xa (some 24) _ (Zak 2 rfl (Zrg _ m s.tm id u (by omega))))<|endR<|Xq<|Xg 7<|Bl 2 5 [(⟨k,0,none⟩,vp t)] (hasC (ba 0) Zaa)<|Bs 1 (Xa (some 30) _ (Zak 1 rfl (ZeQ _ t s.N id false)))<|Ce [(6,Zal (Zag s.N id false).1)]<|Xv (Y0 (Zal (Zag s.N id false).1) (fun w hs=>?_));rw[e];exact⟨(),rfl,hs⟩
 |false=>
  have e:ZaY s id u=(13,s):=by rw[ZaY,if_pos hr]
  refine Be<|Xq<|Xg 2<|Be<|cT<|Xq<|Xg 2<|Ce [(0,vp k),(1,vi id),(2,vi u),(6,.iface 126 (vi 13))]<|Xv (Zab (Y0 (.iface 126 (vi 13)) (fun w hs=>?_)));rw[e];exact⟨(),rfl,hs⟩
theorem Zk2 (H:List SP)(k t m o:Nat)(s:KS)(hk:KOk s)(id:Int):U0 130 #[vp k,vi id] (blk k 145 [vp t,vp m,vp o,vi s.mt,vi s.mg,vi s.nx]::Za4 t s.N::tmS m s.tm::ZcC o s.ob::H) (Zal (Zbn s id).1) (blk k 145 [vp t,vp m,vp o,vi (Zbn s id).2.mt,vi (Zbn s id).2.mg,vi (Zbn s id).2.nx]::Za4 t (Zbn s id).2.N::tmS m (Zbn s id).2.tm::ZcC o (Zbn s id).2.ob::H):=by
 have htl:=hk.tml;refine eG func130 34 ?_;refine Xq<|Xg 1<|Be<|Xq<|Xq<|Xg 8<|Cr 6 2 [(0,vp k),(1,vi id),(4,.nilIface),(8,vp k),(9,vi id)]<|Bs 5 (Xa (some 10) _ (ZdD _ k t m o s id)) ?_;cases hr:(isT s.N id)with
 |true=>
  have e:Zbn s id=((Zap s.N id).1,{s with N:=(Zap s.N id).2,tm:=Zbi id s.tm,ob:=ZcP s.ob id}):=by rw[Zbn,if_neg (by rw[hr];simp)]
  refine Be<|Xq<|Xg 2<|Be<|cF<|Xk<|Xq<|Xg 6<|Bl 1 5 [(⟨k,1,none⟩,vp m)] (hasC (ba 0) Zaa)<|Bs 0 (Xa (some 21) _ (Zak 2 rfl (ZpM _ m s.tm id (by omega))))<|endR<|Xq<|Xg 6<|Bl 1 5 [(⟨k,2,none⟩,vp o)] (hasC (ba 0) Zaa)<|Bs 0 (Xa (some 27) _ (Zak 3 rfl (Zqn _ o s.ob hk.obb hk.obd id)))<|endR<|Xq<|Xg 7<|Bl 2 5 [(⟨k,0,none⟩,vp t)] (hasC (ba 0) Zaa)<|Bs 1 (Xa (some 33) _ (Zak 1 rfl (ZnO _ t s.N id)))<|Ce [(4,Zal (Zap s.N id).1)]<|Xv (Y0 (Zal (Zap s.N id).1) (fun w hs=>?_));rw[e];exact⟨(),rfl,hs⟩
 |false=>
  have e:Zbn s id=(13,s):=by rw[Zbn,if_pos hr]
  refine Be<|Xq<|Xg 2<|Be<|cT<|Xq<|Xg 2<|Ce [(0,vp k),(1,vi id),(4,.iface 126 (vi 13))]<|Xv (Zab (Y0 (.iface 126 (vi 13)) (fun w hs=>?_)));rw[e];exact⟨(),rfl,hs⟩
theorem Zei {e:Int}(h:e=0):Zal e= .nilIface:=by rw[Zal,if_pos h]
theorem Zdg {e:Int}(h:¬e=0):Zal e= .iface 126 (.int .i64 e):=by rw[Zal,if_neg h]
theorem ZkZ (H:List SP)(k t m o:Nat)(s:KS)(hk:KOk s)(id j:Int):U0 132 #[vp k,vi id,vi j] (blk k 145 [vp t,vp m,vp o,vi s.mt,vi s.mg,vi s.nx]::Za4 t s.N::tmS m s.tm::ZcC o s.ob::H) (.tuple #[.bool (ZaJ s id j).1.1,Zal (ZaJ s id j).1.2]) (blk k 145 [vp t,vp m,vp o,vi (ZaJ s id j).2.mt,vi (ZaJ s id j).2.mg,vi (ZaJ s id j).2.nx]::Za4 t (ZaJ s id j).2.N::tmS m (ZaJ s id j).2.tm::ZcC o (ZaJ s id j).2.ob::H):=by
 refine eG func132 44 ?_;refine Xq<|Xg 2<|Be<|Xq<|Xq<|Xg 8<|Cr 6 2 [(0,vp k),(1,vi id),(2,vi j),(6,.bool false),(7,.nilIface),(13,vp k),(14,vi id)]<|Bs 5 (Xa (some 15) _ (ZdD _ k t m o s id)) ?_;cases hr:(isR s.N id)with
 | true=>
  refine Ae 5 ?_;refine Xq<|Xg 2<|Be<|cF<|Xk<|Xq<|Xg 12<|Cl 6 6 [(0,vp k),(1,vi id),(6,.bool false),(7,.nilIface),(25,vp o),(26,vi id),(27,vi j)] [(⟨k,2,none⟩,vp o)] (hasC (ba 0) Zaa)<|Bs 5 (Xa (some 28) _ (Zak 3 rfl (Zqm _ o s.ob hk.obb id j))) ?_;rcases Decidable.em ((Zaj s.ob id j).1.2=0)with h2|h2
  ·rw[Zei h2]
   cases h3:((Zaj s.ob id j).1.1)with
   |true=>
    have e:ZaJ s id j=((Zaj s.ob id j).1,{s with ob:=(Zaj s.ob id j).2}):=by rw[ZaJ,if_neg (by rw[hr];simp),if_pos (.inr h3)]
    refine Be<|Xq<|Xq<|Xg 5<|Be<|cT<|Xq<|Xg 4<|Ce [(0,vp k),(1,vi id),(6,.bool true),(7,.nilIface)]<|Xv (Zab (Y0 (.tuple #[.bool true,.nilIface]) (fun w hs=>?_)));rw[e];exact⟨(),by simp only;rw[h3,Zei h2],hs⟩
   |false=>
    have e:ZaJ s id j=((false,(Zag s.N id false).1),{s with N:=(Zag s.N id false).2,ob:=(Zaj s.ob id j).2}):=by rw[ZaJ,if_neg (by rw[hr];simp),if_neg (by rw[h2,h3];simp)]
    refine Be<|Xq<|Xq<|Xg 5<|Be<|cF<|Xk<|Xq<|Xg 8<|Bl 3 5 [(⟨k,0,none⟩,vp t)] (hasC (ba 0) Zaa)<|Bs 2 (Xa (some 43) _ (Zak 1 rfl (ZeQ _ t s.N id false)))<|Ce [(6,.bool false),(7,Zal (Zag s.N id false).1)]<|Xv (Y0 (.tuple #[.bool false,Zal (Zag s.N id false).1]) (fun w hs=>?_));rw[e];exact⟨(),rfl,hs⟩
  ·rw[Zdg h2]
   have e:ZaJ s id j=((Zaj s.ob id j).1,{s with ob:=(Zaj s.ob id j).2}):=by rw[ZaJ,if_neg (by rw[hr];simp),if_pos (.inl h2)]
   refine Be<|Xq<|Xq<|Xg 5<|Be<|cT<|Xq<|Xg 4<|Ce [(0,vp k),(1,vi id),(6,.bool ((Zaj s.ob id j).1.1)),(7,.iface 126 (vi ((Zaj s.ob id j).1.2)))]<|Xv (Zab (Y0 (.tuple #[.bool ((Zaj s.ob id j).1.1),.iface 126 (vi ((Zaj s.ob id j).1.2))]) (fun w hs=>?_)));rw[e];exact⟨(),by simp only;rw[Zdg h2],hs⟩
 |false=>
  have e:ZaJ s id j=((false,13),s):=by rw[ZaJ,if_pos hr]
  refine Be<|Xq<|Xg 2<|Be<|cT<|Xq<|Xg 3<|Ce [(0,vp k),(1,vi id),(2,vi j),(6,.bool false),(7,.iface 126 (vi 13))]<|Xv (Zab (Y0 (.tuple #[.bool false,.iface 126 (vi 13)]) (fun w hs=>?_)));rw[e];exact⟨(),rfl,hs⟩
theorem Zhu (H:List SP)(k t m o:Nat)(s:KS)(hk:KOk s)(j:Int):U0 133 #[vp k,vi j] (blk k 145 [vp t,vp m,vp o,vi s.mt,vi s.mg,vi s.nx]::Za4 t s.N::tmS m s.tm::ZcC o s.ob::H) (Zal (ZaA s j).1) (blk k 145 [vp t,vp m,vp o,vi (ZaA s j).2.mt,vi (ZaA s j).2.mg,vi (ZaA s j).2.nx]::Za4 t (ZaA s j).2.N::tmS m (ZaA s j).2.tm::ZcC o (ZaA s j).2.ob::H):=by
 refine eG func133 31 ?_;refine Xq<|Xg 1<|Be<|Xq<|Xg 13<|Cl 8 5 [(0,vp k),(4,.nilIface),(12,vp o),(13,vi j)] [(⟨k,2,none⟩,vp o)] (hasC (ba 0) Zaa)<|Bs 7 (Xa (some 14) _ (Zak 3 rfl (ZrG _ o s.ob hk.obb j))) ?_;rcases Decidable.em ((Zay s.ob j).1.2.2=0)with h2|h2
 ·rw[Zei h2]
  cases h3:((Zay s.ob j).1.2.1)with
  |true=>
   have e:ZaA s j=((Zag s.N (Zay s.ob j).1.1 true).1,{s with N:=(Zag s.N (Zay s.ob j).1.1 true).2,ob:=(Zay s.ob j).2}):=by rw[ZaA,if_neg (by rw[h2,h3];simp)]
   refine Be<|Xq<|Xq<|Xg 6<|Be<|cF<|Xk<|Xq<|Xg 7<|Bl 2 5 [(⟨k,0,none⟩,vp t)] (hasC (ba 0) Zaa)<|Bs 1 (Xa (some 30) _ (Zak 1 rfl (ZeQ _ t s.N (Zay s.ob j).1.1 true)))<|Ce [(4,Zal (Zag s.N (Zay s.ob j).1.1 true).1)]<|Xv (Y0 (Zal (Zag s.N (Zay s.ob j).1.1 true).1) (fun w hs=>?_));rw[e];exact⟨(),rfl,hs⟩
  |false=>
   have e:ZaA s j=((Zay s.ob j).1.2.2,{s with ob:=(Zay s.ob j).2}):=by rw[ZaA,if_pos (.inr h3)]
   refine Be<|Xq<|Xq<|Xg 6<|Be<|cT<|Xq<|Xg 2<|Ce [(0,vp k),(4,.nilIface),(5,vi ((Zay s.ob j).1.1))]<|Xv (Zab (Y0 (.nilIface) (fun w hs=>?_)));rw[e];exact⟨(),by simp only;rw[Zei h2],hs⟩
 ·rw[Zdg h2]
  have e:ZaA s j=((Zay s.ob j).1.2.2,{s with ob:=(Zay s.ob j).2}):=by rw[ZaA,if_pos (.inl h2)]
  refine Be<|Xq<|Xq<|Xg 6<|Be<|cT<|Xq<|Xg 2<|Ce [(0,vp k),(4,.iface 126 (vi ((Zay s.ob j).1.2.2))),(5,vi ((Zay s.ob j).1.1))]<|Xv (Zab (Y0 (.iface 126 (vi ((Zay s.ob j).1.2.2))) (fun w hs=>?_)));rw[e];exact⟨(),by simp only;rw[Zdg h2],hs⟩
theorem ZiY (H:List SP)(k t m o:Nat)(s:KS)(hid:∀x∈s.N,x.id≤9223372036854775807):U1 26 #[vp k] (blk k 145 [vp t,vp m,vp o,vi s.mt,vi s.mg,vi s.nx]::Za4 t s.N::tmS m s.tm::ZcC o s.ob::H) (ι:=AN) (fun x=> .slice x.1 (Zaw s.N).length x.2) fun x=>row nE 147 (.slice x.1 (Zaw s.N).length x.2) (Zaw s.N)::blk k 145 [vp t,vp m,vp o,vi s.mt,vi s.mg,vi s.nx]::Za4 t s.N::tmS m s.tm::ZcC o s.ob::H:=by
 refine eG func26 8 ?_;refine Xq<|Xg 1<|Be<|Xq<|Xg 6<|Bl 2 4 [(⟨k,0,none⟩,vp t)] (hasC (ba 0) Zaa)<|Xh0 ?_ 0 2;refine Xh0 ?_ 1 2;refine Bx 1 (Xa (some 7) _ (ZlI _ t s.N hid)) fun(x:AN)=>Be<|Xv<|PT.pick 1 rfl<|PT.pick 2 rfl<|PT.pick 2 rfl<|Y0 (.slice x.1 ((Zaw s.N).length) x.2) (fun w hs=>?_)
 exact⟨x,rfl,hs⟩
theorem ZiM {N:List Nr}(hn:(N.map (·.id)).Nodup):(Zaw N).Perm N:=by
 have h1:(ZbA (N.map (·.id))).Perm (N.map (·.id)):=List.mergeSort_perm _ _;have h2:(N.map (·.id)).map (fun k=>(gt N k).getD ZbE)=N:=by
  rw[List.map_map];refine(List.map_congr_left (g:=fun x=>x) fun x hx=>?_).trans (List.map_id' N);show(gt N x.id).getD ZbE=x;rw[ZbY hn hx];rfl
 have h3:=h1.map (fun k=>(gt N k).getD ZbE);rw[h2]at h3;exact h3
def cntP (thr:Bool)(x:Nr):Bool:=x.thr==thr&& !(x.id==0)
theorem Zk3 {N:List Nr}(hn:(N.map (·.id)).Nodup)(thr:Bool):(((Zaw N).filter (cntP thr)).length:Int)=kcnt N thr:=by
 rw[((ZiM hn).filter (cntP thr)).length_eq];rfl
theorem Zj1 {M:List Nr}{u:Nat}{x:Nr}(h:M[u]? =some x)(p:Nr→Bool):((M.take (u+1)).filter p).length=((M.take u).filter p).length+if p x=true then 1 else 0:=by
 rw[List.take_add_one,h,List.filter_append,List.length_append];cases c:p x<;>simp[c]
theorem Zi2 (H:List SP)(k t m o:Nat)(s:KS)(hk:KOk s)(hid:s.nx≤1099511627776)(thr:Bool):US 172 #[vp k,.bool thr] (blk k 145 [vp t,vp m,vp o,vi s.mt,vi s.mg,vi s.nx]::Za4 t s.N::tmS m s.tm::ZcC o s.ob::H) (vi (kcnt s.N thr)):=by
 have hids:∀x∈s.N,x.id≤9223372036854775807:=fun x hx=>by have:=hk.ids x hx;omega
 obtain⟨M,hM⟩:∃M,Zaw s.N=M:=⟨_,rfl⟩
 have hMl:1≤M.length∧M.length≤60:=by
  rw[←hM,Zej];obtain⟨r,hr,_⟩:=hk.wf.sk.root;exact⟨List.length_pos_of_mem hr,hk.wf.sk.len⟩
 refine eG func172 31 ?_;refine Xq (Xg 1 (Ae 1 ?_));refine Xq (Xg 1 (Ae 1 ?_));refine Xq (Xq (Xg 7 (Xl [(1,.bool thr),(4,vi 0),(5,vi 0),(11,vp t)] [(⟨k,0,none⟩,vp t)] (hasC (ba 0) Zaa) ?_ 3 4)));refine Xh0 ?_ 0 3;refine Xh0 ?_ 1 3;refine Xs (Xa (some 12) _ ((hM▸ZlI _ t s.N hids))) (fun(na:AN)=>?_) 2;refine PT.know (KR.isSome (s:=⟨na.1,na.2,M⟩) (Zad 0 rfl) (List.ne_nil_of_length_pos (by show 0<M.length;omega))) ?_;rintro⟨nb,no,hnA⟩;dsimp only at hnA;rw[hnA];refine Ae 2 ?_;refine Xb 0 (Xp [(1,.bool thr),(4,vi 0),(5,vi 0),(12,.slice (some ⟨nb,no,none⟩) M.length na.2),(13,vi (M.length:Int)),(14,vi 0)] (Xl0 (fun(q:Nat×Nat)=> [(1,.bool thr),(4,vi 0),(5,vi (q.2:Int)),(12,.slice (some ⟨nb,no,none⟩) M.length na.2),(13,vi (M.length:Int)),(14,vi (q.1:Int))]) (fun k (q:Nat×Nat)=>k+q.1=M.length∧q.2=((M.take q.1).filter (cntP thr)).length) M.length (0,0) Kr ⟨by simp,by simp⟩ ?_));rintro k1 ⟨i,n⟩ ⟨hki,hn⟩;simp only at hki hn;refine Xq (Xg 1 (Ae 1 ?_));refine Xq (Xc (decide ((i:Int)< (M.length:Int))) (fun h2=>?_) (fun h2=>?_))
 ·have hi:i<M.length:=by have:=of_decide_eq_true h2;omega
  obtain⟨x,hx⟩:∃x,M[i]? =some x:=⟨_,gEe hi⟩
  have hst:=Zj1 hx (cntP thr);have hnl:((M.take i).filter (cntP thr)).length≤i:=Nat.le_trans (List.length_filter_le _ _) (by simp;omega);refine Xk (Xq (Xb 1 (Xq (Xg 4 (Xs (Zav (Xi 63 (.tmp 12) (.tmp 14) nb no M.length na.2 i 6 147 (i:Int) 16 underlying63)) (fun _=>?_) 3)))));refine Xl [(1,.bool thr),(4,vi 0),(5,vi n),(12,.slice (some ⟨nb,no,none⟩) M.length na.2),(13,vi (M.length:Int)),(14,vi i),(17,.agg #[vi x.id,vi x.par,vi x.wt,vi x.pass,.bool x.thr,.bool x.rdy])] [(⟨nb,no+i*6,none⟩,vi x.id),(⟨nb,no+i*6+1,none⟩,vi x.par),(⟨nb,no+i*6+2,none⟩,vi x.wt),(⟨nb,no+i*6+3,none⟩,vi x.pass),(⟨nb,no+i*6+4,none⟩,.bool x.thr),(⟨nb,no+i*6+5,none⟩,.bool x.rdy)] (hasC (Zac (E:=nE) (xs:=M) 0 rfl (x:=x) hx (j:=0) rfl) (hasC (Zac (E:=nE) (xs:=M) 0 rfl (x:=x) hx (j:=1) rfl) (hasC (Zac (E:=nE) (xs:=M) 0 rfl (x:=x) hx (j:=2) rfl) (hasC (Zac (E:=nE) (xs:=M) 0 rfl (x:=x) hx (j:=3) rfl) (hasC (Zac (E:=nE) (xs:=M) 0 rfl (x:=x) hx (j:=4) rfl) (hasC (Zac (E:=nE) (xs:=M) 0 rfl (x:=x) hx (j:=5) rfl) Zaa)))))) ?_ 2 1;refine Xs (Xn 147 [vi 0,vi 0,vi 0,vi 0,.bool false,.bool false] (some 7) (fun b=>vp b)) (fun b1=>?_) 1;refine Xs (Xz [(0,vi x.id),(1,vi x.par),(2,vi x.wt),(3,vi x.pass),(4,.bool x.thr),(5,.bool x.rdy)]) (fun _=>?_) 0;refine endR ?_;refine Xq (Xg 9 (Xl [(7,vp b1),(1,.bool thr),(4,vi 0),(5,vi n),(12,.slice (some ⟨nb,no,none⟩) M.length na.2),(13,vi (M.length:Int)),(14,vi i),(22,.bool (x.thr==thr))] [(⟨b1,4,none⟩,.bool x.thr)] (hasC (ba 0) Zaa) ?_ 4 5));refine(Xs0 0 4 [(1,.bool thr),(4,vi 0),(5,vi n),(12,.slice (some ⟨nb,no,none⟩) M.length na.2),(13,vi (M.length:Int)),(14,vi i),(26,.bool ((x.thr==thr)&& (x.id !=0)))] ?_ ?_:RT _ _ _ _ _ _ 4 _)
  ·cases hg5:(x.thr==thr)with
   |true=>
    refine Xm [(1,.bool thr),(4,vi 0),(5,vi n),(12,.slice (some ⟨nb,no,none⟩) M.length na.2),(13,vi (M.length:Int)),(14,vi i),(26,.bool (x.id !=0))] [(⟨b1,0,none⟩,vi x.id)] (hasC (ba 0) Zaa) ?_ 4;refine Xp [(1,.bool thr),(4,vi 0),(5,vi n),(12,.slice (some ⟨nb,no,none⟩) M.length na.2),(13,vi (M.length:Int)),(14,vi i),(26,.bool (true&& (x.id !=0)))] ?_;exact Zcm () rfl rfl
   |false=>
    refine Xe [(1,.bool thr),(4,vi 0),(5,vi n),(12,.slice (some ⟨nb,no,none⟩) M.length na.2),(13,vi (M.length:Int)),(14,vi i),(26,.bool false)] ?_ 4;refine Xp [(1,.bool thr),(4,vi 0),(5,vi n),(12,.slice (some ⟨nb,no,none⟩) M.length na.2),(13,vi (M.length:Int)),(14,vi i),(26,.bool (false&& (x.id !=0)))] ?_;exact Zcm () rfl rfl
  refine endR ?_;refine Xc ((x.thr==thr)&& (x.id !=0)) (fun h3=>?_) (fun h3=>?_)
  ·have h4:cntP thr x=true:=h3;rw[if_pos h4]at hst;refine Xg 3 (Ae 3 ?_);refine Xg 2 (Xe [(1,.bool thr),(4,vi 0),(5,vi (IntKind.i64.wrap ((n:Int)+1))),(12,.slice (some ⟨nb,no,none⟩) M.length na.2),(13,vi (M.length:Int)),(14,vi (IntKind.i64.wrap ((i:Int)+1)))] ?_ 2);rw[show IntKind.i64.wrap ((n:Int)+1)=((n:Int)+1)by rw[w64 (by omega) (by omega)]];rw[show IntKind.i64.wrap ((i:Int)+1)=((i:Int)+1)by rw[w64 (by omega) (by omega)]];refine PT.drop ?_;refine Xp [(1,.bool thr),(4,vi 0),(5,vi ((n:Int)+1)),(12,.slice (some ⟨nb,no,none⟩) M.length na.2),(13,vi (M.length:Int)),(14,vi ((i:Int)+1))] ?_;exact Za3 (k1-1) (i+1,n+1) rfl rfl (by omega) ⟨by simp only;omega,by simp only;omega⟩
  ·have h4:¬cntP thr x=true:=by rw[show cntP thr x=false from h3];simp
   rw[if_neg h4]at hst;refine Xk (Xg 2 (Xe [(1,.bool thr),(4,vi 0),(5,vi n),(12,.slice (some ⟨nb,no,none⟩) M.length na.2),(13,vi (M.length:Int)),(14,vi (IntKind.i64.wrap ((i:Int)+1)))] ?_ 2));rw[show IntKind.i64.wrap ((i:Int)+1)=((i:Int)+1)by rw[w64 (by omega) (by omega)]];refine PT.drop ?_;refine Xp [(1,.bool thr),(4,vi 0),(5,vi n),(12,.slice (some ⟨nb,no,none⟩) M.length na.2),(13,vi (M.length:Int)),(14,vi ((i:Int)+1))] ?_;exact Za3 (k1-1) (i+1,n) rfl rfl (by omega) ⟨by simp only;omega,by simp only;omega⟩
 ·have hi:i=M.length:=by have:=of_decide_eq_false h2;omega
  refine Xx 0 (Zao (Zao (Zax (Xq (Xg 2 (Xe [(4,vi n)] ?_ 2))))));refine Xv (Y0 (vi n) (fun w hs=>?_));rw[hn,hi,List.take_length,←hM,Zk3 hk.wf.sk.nd];exact⟨(),rfl,SatF.swap hs.tail⟩
theorem ZfW (H:List SP)(k t m o:Nat)(s:KS)(hk:KOk s)(hid:s.nx≤1099511627776)(par wt most:Int)(thr:Bool):U0 117 #[vp k,vi par,vi wt,vi most,.bool thr] (blk k 145 [vp t,vp m,vp o,vi s.mt,vi s.mg,vi s.nx]::Za4 t s.N::tmS m s.tm::ZcC o s.ob::H) (.tuple #[vi (ZaB s par wt most thr).1.1,Zal (ZaB s par wt most thr).1.2]) (blk k 145 [vp t,vp m,vp o,vi (ZaB s par wt most thr).2.mt,vi (ZaB s par wt most thr).2.mg,vi (ZaB s par wt most thr).2.nx]::Za4 t (ZaB s par wt most thr).2.N::tmS m (ZaB s par wt most thr).2.tm::ZcC o (ZaB s par wt most thr).2.ob::H):=by
 have hnx:=hk.nx;refine eG func117 71 ?_;refine Xq (Xg 2 (Ae 2 ?_));refine Xq (Xg 12 (Xl [(0,vp k),(1,vi par),(2,vi wt),(3,vi most),(4,.bool thr),(10,vi 0),(11,.nilIface),(19,vp t),(20,vi par)] [(⟨k,0,none⟩,vp t)] (hasC (ba 0) Zaa) ?_ 7 5));refine Xs (Xa (some 21) _ (Zak 1 rfl (Zo6 _ t s.N par))) (fun _=>?_) 6;cases hg:gt s.N par with
 | none=>
  refine Ar ?_ 3 3;refine Xs (Xn 147 [vi 0,vi 0,vi 0,vi 0,.bool false,.bool false] (some 12) (fun b=>vp b)) (fun b1=>?_) 2;refine Xs (Xz [(0,vi ZbE.id),(1,vi ZbE.par),(2,vi ZbE.wt),(3,vi ZbE.pass),(4,.bool ZbE.thr),(5,.bool ZbE.rdy)]) (fun _=>?_) 1;refine Ae 1 ?_;refine Xq (Xb 0 (Xq (Xg 4 (Ar ?_ 3 1))));refine Xs (Xa (some 26) _ (Zbx _ wt)) (fun _=>?_) 2;refine Xe [(12,vp b1),(0,vp k),(1,vi par),(2,vi wt),(3,vi most),(4,.bool thr),(10,vi 0),(11,.nilIface),(13,.bool false),(24,.bool (!(isW wt)))] ?_ 2;cases hw:(isW wt)with
  |true=>
   have e:ZaB s par wt most thr=((0,13),s):=by rw[ZaB,if_neg (by rw[hw];simp),if_pos (by rw[hg];simp)]
   refine Xc false (fun h=>by cases h) (fun _=>?_);refine Xq (Xg 7 (Ae 7 ?_));refine Xc true (fun _=>?_) (fun h=>by cases h);refine Xq (Xg 3 (Xe [(0,vp k),(1,vi par),(2,vi wt),(4,.bool thr),(10,vi 0),(11,.iface 126 (vi 13))] ?_ 3));refine Xv (Zae (Zab (Y0 (.tuple #[vi 0,.iface 126 (vi 13)]) (fun w hs=>?_))));rw[e];exact⟨(),rfl,hs.tail⟩
  |false=>
   have e:ZaB s par wt most thr=((0,10),s):=by rw[ZaB,if_pos hw]
   refine Xc true (fun _=>?_) (fun h=>by cases h);refine Xq (Xg 3 (Xe [(0,vp k),(1,vi par),(2,vi wt),(4,.bool thr),(10,vi 0),(11,.iface 126 (vi 10))] ?_ 3));refine Xv (Zae (Zab (Y0 (.tuple #[vi 0,.iface 126 (vi 10)]) (fun w hs=>?_))));rw[e];exact⟨(),rfl,hs.tail⟩
 | some p=>
  simp only[Option.getD_some,Option.isSome_some];refine Ar ?_ 3 3;refine Xs (Xn 147 [vi 0,vi 0,vi 0,vi 0,.bool false,.bool false] (some 12) (fun b=>vp b)) (fun b1=>?_) 2;refine Xs (Xz [(0,vi p.id),(1,vi p.par),(2,vi p.wt),(3,vi p.pass),(4,.bool p.thr),(5,.bool p.rdy)]) (fun _=>?_) 1;refine Ae 1 ?_;refine Xq (Xb 0 (Xq (Xg 4 (Ar ?_ 3 1))));refine Xs (Xa (some 26) _ (Zbx _ wt)) (fun _=>?_) 2;refine Xe [(12,vp b1),(0,vp k),(1,vi par),(2,vi wt),(3,vi most),(4,.bool thr),(10,vi 0),(11,.nilIface),(13,.bool true),(24,.bool (!(isW wt)))] ?_ 2;cases hw:(isW wt)with
  | true=>
   cases ht:(p.thr)with
   |true=>
    have e:ZaB s par wt most thr=((0,13),s):=by rw[ZaB,if_neg (by rw[hw];simp),if_pos (by rw[hg];simp[ht])]
    refine Xc false (fun h=>by cases h) (fun _=>?_);refine Xq (Xg 7 (Am 7 [(⟨b1,4,none⟩,.bool true)] (hasC (ba 0) Zaa) ?_));refine Xc true (fun _=>?_) (fun h=>by cases h);refine Xq (Xg 3 (Xe [(0,vp k),(1,vi par),(2,vi wt),(4,.bool thr),(10,vi 0),(11,.iface 126 (vi 13))] ?_ 3));refine Xv (Zae (Zab (Y0 (.tuple #[vi 0,.iface 126 (vi 13)]) (fun w hs=>?_))));rw[e];exact⟨(),rfl,hs.tail⟩
   | false=>
    have h13:¬((gt s.N par).isNone∨((gt s.N par).getD ZbE).thr=true):=by rw[hg];simp[ht]
    refine Xc false (fun h=>by cases h) (fun _=>?_);refine Xq (Xg 7 (Am 7 [(⟨b1,4,none⟩,.bool false)] (hasC (ba 0) Zaa) ?_));refine Xc false (fun h=>by cases h) (fun _=>?_);refine Xq (Xg 6 (Ar ?_ 4 2));refine PT.drop ?_;refine Xs (Xa (some 40) (fun _=>vi (kcnt s.N thr)) (Zi2 _ k t m o s hk hid thr)) (fun _=>?_) 3;refine Ae 3 ?_;refine Xc (decide ((kcnt s.N thr)≥most)) (fun h3=>?_) (fun h3=>?_)
    ·have e:ZaB s par wt most thr=((0,14),s):=by rw[ZaB,if_neg (by rw[hw];simp),if_neg h13,if_pos (of_decide_eq_true h3)]
     refine Xq (Xg 3 (Xe [(0,vp k),(1,vi par),(2,vi wt),(4,.bool thr),(10,vi 0),(11,.iface 126 (vi 14))] ?_ 3));refine Xv (Zae (Zab (Y0 (.tuple #[vi 0,.iface 126 (vi 14)]) (fun w hs=>?_))));rw[e];exact⟨(),rfl,hs⟩
    ·have h3':¬kcnt s.N thr≥most:=of_decide_eq_false h3;refine PT.pick 0 rfl ?_;refine PT.pick 1 rfl ?_;refine Xk (Xq (Xq (Xy0 1 [] 13 ?_)));refine Xt [0,1,2,3,4,5,6,7,8,9,10] [(0,vp k),(10,vi 0),(11,.nilIface),(47,vp t),(48,vi par),(52,vi s.nx),(53,vi wt),(54,.bool thr)] [(⟨k,0,none⟩,vp t),(⟨k,5,none⟩,vi s.nx)] (hasC (ba 0) (hasC (ba 0) Zaa)) ?_;refine Xo 11 (Xa (some 55) _ (ZsD _ t s.N par s.nx wt thr)) (fun _=>?_);rcases Decidable.em ((Zbs s.N par s.nx wt thr).1=0)with h4|h4
     ·rw[Zei h4]
      have e:ZaB s par wt most thr=((s.nx,0),{s with N:=(Zbs s.N par s.nx wt thr).2,nx:=s.nx+1}):=by rw[ZaB,if_neg (by rw[hw];simp),if_neg h13,if_neg h3',if_neg (by rw[h4];simp)]
      refine At' [12] [] Zaa ?_;refine Xd (Xq (Xg 2 (Ae 2 ?_)));refine Xc false (fun h=>by cases h) (fun _=>?_);refine Xk (Xq (Xg 8 (Al [(⟨k,5,none⟩,vi s.nx)] (hasC (ba 1) Zaa) ?_ 1 7)));refine Xh0 ?_ 1 1;refine Xs (Xz [(5,vi (IntKind.i64.wrap (s.nx+1)))]) (fun _=>?_) 0;refine endR ?_;refine Xq (Xg 7 (Xm [(10,vi (IntKind.i64.wrap ((IntKind.i64.wrap (s.nx+1))-1))),(11,.nilIface)] [(⟨k,5,none⟩,vi (IntKind.i64.wrap (s.nx+1)))] (hasC (ba 0) Zaa) ?_ 7));refine Xv ?_;rw[show IntKind.i64.wrap (s.nx+1)=(s.nx+1)by rw[w64 (by omega) (by omega)]];rw[show IntKind.i64.wrap ((s.nx+1)-1)=((s.nx+1)-1)by rw[w64 (by omega) (by omega)]];refine Y1 (.tuple #[vi ((s.nx+1)-1),.nilIface]) (fun w hs=>?_);rw[e];exact⟨(),by simp only;rw[show s.nx+1-1=s.nx by omega];rfl,hs⟩
     ·rw[Zdg h4]
      have e:ZaB s par wt most thr=((0,(Zbs s.N par s.nx wt thr).1),s):=by rw[ZaB,if_neg (by rw[hw];simp),if_neg h13,if_neg h3',if_pos h4]
      have hN:(Zbs s.N par s.nx wt thr).2=s.N:=by rcases add_cases s.N par s.nx wt thr with⟨e,_,h5⟩|⟨p,_,_,h5⟩;rw[h5];rw[h5]at h4;exact absurd rfl h4
      refine At' [12] [] Zaa ?_;refine Xd (Xq (Xg 2 (Ae 2 ?_)));refine Xc true (fun _=>?_) (fun h=>by cases h);refine Xq (Xg 3 (Xe [(0,vp k),(10,vi 0),(11,.iface 126 (vi ((Zbs s.N par s.nx wt thr).1)))] ?_ 3));refine Xv (Zab (Y0 (.tuple #[vi 0,.iface 126 (vi ((Zbs s.N par s.nx wt thr).1))]) (fun w hs=>?_)));rw[e];exact⟨(),by simp only;rw[Zdg h4],by simp only;rw[hN]at hs;exact SatF.swap hs⟩
  |false=>
   have e:ZaB s par wt most thr=((0,10),s):=by rw[ZaB,if_pos hw]
   refine Xc true (fun _=>?_) (fun h=>by cases h);refine Xq (Xg 3 (Xe [(0,vp k),(1,vi par),(2,vi wt),(4,.bool thr),(10,vi 0),(11,.iface 126 (vi 10))] ?_ 3));refine Xv (Zae (Zab (Y0 (.tuple #[vi 0,.iface 126 (vi 10)]) (fun w hs=>?_))));rw[e];exact⟨(),rfl,hs.tail⟩
theorem ZiZ (H:List SP)(k t m o:Nat)(s:KS)(hk:KOk s)(hid:s.nx≤1099511627776)(par wt:Int):U0 129 #[vp k,vi par,vi wt] (blk k 145 [vp t,vp m,vp o,vi s.mt,vi s.mg,vi s.nx]::Za4 t s.N::tmS m s.tm::ZcC o s.ob::H) (.tuple #[vi (ZaC s par wt).1.1,Zal (ZaC s par wt).1.2]) (blk k 145 [vp t,vp m,vp o,vi (ZaC s par wt).2.mt,vi (ZaC s par wt).2.mg,vi (ZaC s par wt).2.nx]::Za4 t (ZaC s par wt).2.N::tmS m (ZaC s par wt).2.tm::ZcC o (ZaC s par wt).2.ob::H):=by
 refine eG func129 18 ?_;exact Xq<|Xg 2<|Be<|Xq<|Xg 12<|Bl 5 7 [(⟨k,4,none⟩,vi s.mg)] (hasC (ba 0) Zaa)<|Bs 4 (Xa (some 15) _ (ZfW _ k t m o s hk hid par wt s.mg false))<|Be<|Xv (Y0 (.tuple #[vi ((ZaB s par wt s.mg false).1.1),Zal (ZaB s par wt s.mg false).1.2]) fun w hs=>⟨(),rfl,hs⟩)
theorem Zfa (H:List SP)(k t m o:Nat)(s:KS)(hk:KOk s)(hid:s.nx≤1099511627776)(par wt:Int):U0 80 #[vp k,vi par,vi wt] (blk k 145 [vp t,vp m,vp o,vi s.mt,vi s.mg,vi s.nx]::Za4 t s.N::tmS m s.tm::ZcC o s.ob::H) (.tuple #[vi (Zau s par wt).1.1,Zal (Zau s par wt).1.2]) (blk k 145 [vp t,vp m,vp o,vi (Zau s par wt).2.mt,vi (Zau s par wt).2.mg,vi (Zau s par wt).2.nx]::Za4 t (Zau s par wt).2.N::tmS m (Zau s par wt).2.tm::ZcC o (Zau s par wt).2.ob::H):=by
 refine eG func80 31 ?_;refine Xq<|Xg 2<|Be<|Xq<|Xg 13<|Cl 6 7 [(0,vp k),(6,vi 0),(7,.nilIface),(11,vp k),(12,vi par),(13,vi wt),(17,vi s.mt)] [(⟨k,3,none⟩,vi s.mt)] (hasC (ba 0) Zaa)<|Bs 5 (Xa (some 18) _ (ZfW _ k t m o s hk hid par wt s.mt true)) ?_;rcases Decidable.em ((ZaB s par wt s.mt true).1.2=0)with h4|h4
 ·rw[Zei h4]
  have e:Zau s par wt=(((ZaB s par wt s.mt true).1.1,(Zag (ZaB s par wt s.mt true).2.N (ZaB s par wt s.mt true).1.1 true).1),{(ZaB s par wt s.mt true).2 with N:=(Zag (ZaB s par wt s.mt true).2.N (ZaB s par wt s.mt true).1.1 true).2}):=by rw[Zau,if_neg (by rw[h4];simp)]
  refine Be<|Xq<|Xq<|Xg 2<|Be<|cF<|Xk<|Xq<|Xg 9<|Bl 3 6 [(⟨k,0,none⟩,vp t)] (hasC (ba 0) Zaa)<|Bs 2 (Xa (some 30) _ (Zak 1 rfl (ZeQ _ t (ZaB s par wt s.mt true).2.N (ZaB s par wt s.mt true).1.1 true)))<|Ce [(6,vi ((ZaB s par wt s.mt true).1.1)),(7,Zal (Zag (ZaB s par wt s.mt true).2.N (ZaB s par wt s.mt true).1.1 true).1)]<|Xv (Y0 (.tuple #[vi ((ZaB s par wt s.mt true).1.1),Zal (Zag (ZaB s par wt s.mt true).2.N (ZaB s par wt s.mt true).1.1 true).1]) (fun w hs=>?_));rw[e];exact⟨(),rfl,hs⟩
 ·rw[Zdg h4]
  have e:Zau s par wt=((0,(ZaB s par wt s.mt true).1.2),(ZaB s par wt s.mt true).2):=by rw[Zau,if_pos h4]
  refine Be<|Xq<|Xq<|Xg 2<|Be<|cT<|Xq<|Xg 3<|Ce [(0,vp k),(6,vi 0),(7,.iface 126 (vi ((ZaB s par wt s.mt true).1.2))),(8,vi ((ZaB s par wt s.mt true).1.1))]<|Xv (Zab (Y0 (.tuple #[vi 0,.iface 126 (vi ((ZaB s par wt s.mt true).1.2))]) (fun w hs=>?_)));rw[e];exact⟨(),by simp only;rw[Zdg h4],hs⟩
def kn01 :List Nr:=[⟨0,-1,1,0,false,true,0⟩,⟨1,0,1,0,true,true,0⟩]
def Zh2 (a:Int):Int:=mnI (mxI a 1) 8
def Zh3 (a:Int):Int:=mnI (mxI a 0) 4
theorem ZmA (a:Int):1≤Zh2 a∧Zh2 a≤8:=by unfold Zh2 mnI mxI;repeat' split<;>omega
theorem ZmC (a:Int):0≤Zh3 a∧Zh3 a≤4:=by unfold Zh3 mnI mxI;repeat' split<;>omega
theorem ZoA {mt mg:Int}(h:1≤mt):ZaB ⟨[rootN],[],ob0,mt,mg,1⟩ 0 1 mt true=((1,0),⟨[rootN,⟨1,0,1,0,true,false,0⟩],[],ob0,mt,mg,2⟩):=by
 have h1:kcnt [rootN] true=0:=by decide
 have h2:Zbs [rootN] 0 1 1 true=(0,[rootN,⟨1,0,1,0,true,false,0⟩]):=by rfl
 have h3:gt [rootN] 0=some rootN:=by rfl
 rw[ZaB,if_neg (by decide),if_neg (by simp only[h3];decide),if_neg (by simp only[h1];omega),if_neg (by simp only[h2];decide)];simp only[h2];rfl
theorem Zhx {mt mg:Int}(h:1≤mt):Zau ⟨[rootN],[],ob0,mt,mg,1⟩ 0 1=((1,0),⟨kn01,[],ob0,mt,mg,2⟩):=by
 have h1:=ZoA (mt:=mt) (mg:=mg) h;have h2:Zag [rootN,⟨1,0,1,0,true,false,0⟩] 1 true=(0,kn01):=by rfl
 unfold Zau;simp only[h1];rw[if_neg (by decide)];simp only[h2]
theorem ZqH {mt mg:Int}(h:1≤mt):k0 mt mg=⟨kn01,[],ob0,mt,mg,2⟩:=congrArg Prod.snd (Zhx h)
theorem ZmR (H:List SP)(th gr:Int):U1 43 #[vi th,vi gr] H (ι:=Nat) (fun k=>vp k) fun k=>Zds k (k0 (Zh2 th) (Zh3 gr))::H:=by
 have hm:=ZmA th;have hg:=ZmC gr;have hsp:=Zhx (mt:=Zh2 th) (mg:=Zh3 gr) hm.1;have hk:=Zpn hm hg;refine eG func43 27 ?_;refine Xq<|Xg 1<|Be<|Xq<|Xg 12<|Bx 11 (Xa (some 8) _ (ZsC _)) fun(t:Nat)=>Bx 10 (Xa (some 9) _ (Zrh _)) fun(m:Nat)=>Bx 9 (Xa (some 10) _ (ZrH _)) fun(o:Nat)=>Br 2 7<|Bx 1 (Xn 145 [vp t,vp m,vp o,vi (mnI (mxI th 1) 8),vi (mnI (mxI gr 0) 4),vi 1] (some 18) (fun b=>vp b)) fun b1=>Be<|Xq<|Xq<|Xg 7<|Br 6 1<|Xh0 ?_ 1 6
 refine Xh0 ?_ 2 6;refine Xh0 ?_ 3 6;refine Xh0 ?_ 3 6;exact Bs 5 (Xa (some 21) _ ((by have h:=Zfa H b1 t m o ⟨[rootN],[],ob0,Zh2 th,Zh3 gr,1⟩ hk (by simp only;omega) 0 1;rw[hsp]at h;exact h)))<|Be<|Xq<|Xg 2<|Be<|cF<|Xk<|Xq<|Xg 2<|Be<|Xv (Y0 (vp b1) fun w hs=>⟨b1,rfl,Sat.closeKer (k0_ok hm hg) (by rw[ZqH hm.1];exact hs)⟩)
structure SdS where
 k:KS
 r:RgS
 b:BxS
 left:Int
 all:Int
 read:List Int
structure WS where
 s:List SdS
 l:List Acc
 t:LtS
def Zh1 (d:DomV):SdS:=⟨k0 (Zh2 d.threads) (Zh3 d.groups),rg0 d.ring,bx0 d.box,sends d.sends,sends d.sends,[0,0,0,0,0,0]⟩
def w0 (c:ConfV):WS:=⟨c.domains.l.map Zh1,List.replicate (mnI (mxI (c.domains.l.length:Int) 1) 6).toNat ⟨0,0,0,0⟩,lt0 c.domains.l.length⟩
def sdZ :SdS:=⟨⟨[],[],[],0,0,0⟩,⟨[],0,0⟩,⟨[],0⟩,0,0,[]⟩
def ZbJ (w:WS)(d:Nat):SdS:=w.s.getD d sdZ
def wUp (w:WS)(d:Nat)(x:SdS):WS:={w with s:=w.s.set d x}
def Zdt (w:WS):WS:={w with s:=w.s.map fun x=>{x with left:=x.all},t:=Zdv w.t}
def ZcB (k:KS)(tick th op a b:Int):(Int×Int)×KS:=
 if op=1 then(((Zau k a b).1.1,(Zau k a b).1.2),(Zau k a b).2)
 else if op=2 then(((ZaC k a b).1.1,(ZaC k a b).1.2),(ZaC k a b).2)
 else if op=3 then((0,(Zbn k th).1),(Zbn k th).2)
 else if op=4 then(if a>1000 then((0,12),k)else((0,(ZaY k th (IntKind.i64.wrap (IntKind.i64.wrap (tick+1)+a))).1),(ZaY k th (IntKind.i64.wrap (IntKind.i64.wrap (tick+1)+a))).2))
 else if op=5 then((if(ZaJ k th a).1.1=true then 1 else 0,(ZaJ k th a).1.2),(ZaJ k th a).2)
 else if op=6 then((0,(ZaA k a).1),(ZaA k a).2)
 else if op=7 then((0,(Za9 k a b).1),(Za9 k a b).2)
 else((0,16),k)
def ZgN (w:WS)(d:Int):Int:=(ZaF w.l d).own+(ZaF w.l d).got
def Zc2 (c:ConfV)(w:WS)(d a:Int):(Int×Int)×Int:=if Zah c a d=0 then((ZgN w a,(ZaF w.l a).idle),0)else((0,0),Zah c a d)
def Zga (w:WS)(d a:Nat):Rec×Bool:=Zar (ZbJ w a).r (IntKind.i64.wrap ((ZbJ w d).read.getD a 0+1))
def Zbh (c :ConfV) (w:WS) (d:Nat) (a:Int):((Int×Int)×Int)×WS:=
  if Zah c a d=0 then
    (if(Zga w d a.toNat).2=true then((((Zga w d a.toNat).1.1,IntKind.i64.wrap (IntKind.i64.wrap ((Zga w d a.toNat).1.2.2.1*100)+(Zga w d a.toNat).1.2.2.2)),0),wUp w d {ZbJ w d with read:=(ZbJ w d).read.set a.toNat (Zga w d a.toNat).1.1})
      else(((0,0),13),w))
  else(((0,0),Zah c a d),w)
def Zkf (w:WS)(d:Nat):WS:=wUp w d {ZbJ w d with left:=(ZbJ w d).left-1}
def Zq4 (w:WS)(d a:Nat)(x:Int):WS:=wUp w a {ZbJ w a with b:=Zb0 (ZbJ w a).b d x}
def Zcg (c:ConfV)(w:WS)(d:Nat)(a b:Int):Int×WS:=
 if Zah c d a=0 then(if(ZbJ w d).left=0 then(14,w)else(0,Zq4 (Zkf w d) d a.toNat b))else(Zah c d a,w)
def Zca (w:WS)(d:Nat):((Int×Int)×Int)×WS:=if(Zbo (ZbJ w d).b).2=true then(((Zbo (ZbJ w d).b).1,0),wUp w d {ZbJ w d with b:=ZbS (ZbJ w d).b})else(((0,0),13),w)
def ZbH (c:ConfV)(w:WS)(d:Nat)(v:Int):Int×WS:=if ZaM c d v=0 then((ZaI c w.t d v).1,{w with t:=(ZaI c w.t d v).2})else(ZaM c d v,w)
def ZcF (c:ConfV)(w:WS)(d:Nat)(i:Int):Int×WS:=if Zbb c d i=0 then((ZaW w.t c.plans.l.length i).1,{w with t:=(ZaW w.t c.plans.l.length i).2})else(Zbb c d i,w)
def Zan (c:ConfV)(w:WS)(tick:Int)(d:Nat)(th op a b:Int):((Int×Int)×Int)×WS:=
 if op=8 then(((ZgN w d,0),0),w)
 else if op=9 then(Zc2 c w d a,w)
 else if op=10 then Zbh c w d a
 else if op=11 then(((0,0),(Zcg c w d a b).1),(Zcg c w d a b).2)
 else if op=12 then Zca w d
 else if op=13 then(((0,0),(ZbH c w d a).1),(ZbH c w d a).2)
 else if op=14 then(((0,0),(ZcF c w d a).1),(ZcF c w d a).2)
 else((((ZcB (ZbJ w d).k tick th op a b).1.1,0),(ZcB (ZbJ w d).k tick th op a b).1.2),wUp w d {ZbJ w d with k:=(ZcB (ZbJ w d).k tick th op a b).2})
def Zbc (op:Int):Bool:=op==1||op==2||op==3||op==7||op==11||op==13||op==14
def ZaK (x:(Int×Int)×Int):Int×Int×Int:=if x.2=0 then(0,x.1.1,x.1.2)else(x.2,0,0)
def Zdr (w:WS)(d:Nat)(tick op code:Int):WS:=if Zbc op=true then wUp w d {ZbJ w d with r:=ZbT (ZbJ w d).r tick op code}else w
def Zbt (c:ConfV)(w:WS)(tick:Int)(d:Nat)(th op a b:Int):((Int×Int×Int)×Bool)×WS:=
 if op=0 then(((0,0,0),false),w)
 else((ZaK (Zan c w tick d th op a b).1,true),Zdr (Zan c w tick d th op a b).2 d tick op (ZaK (Zan c w tick d th op a b).1).1)
end Go.Proofs.YtfhkgohokbkgiaaGreatDoor
namespace Go.Proofs.YtfhkgohokbkgiaaGreatDoor
open Go.RowKit Ieee
theorem ZiN (s :Bool) (m e:Nat) (hm:0<m) (hb:m<2^53):
    double.nearest s (m*2^e) (-(e:Int))=double.word s ((m.log2+1022)*2^52+m*2^ (52-m.log2)):=by
  have hlg:m.log2<53:=(Nat.log2_lt (by omega)).2 hb;have hle:(m*2^e).log2=m.log2+e:=by
    refine(Nat.log2_eq_iff (Nat.ne_of_gt (Nat.mul_pos hm (Nat.two_pow_pos e)))).2 ⟨?_,?_⟩
    · rw[Nat.pow_add];exact Nat.mul_le_mul_right _ (Nat.log2_self_le (by omega))
    · rw[show m.log2+e+1=(m.log2+1)+e by omega,Nat.pow_add]
      exact Nat.mul_lt_mul_of_pos_right Nat.lt_log2_self (Nat.two_pow_pos e)
  unfold Format.nearest;rw[if_neg (Nat.ne_of_gt (Nat.mul_pos hm (Nat.two_pow_pos e))),hle,ZcQ,Zfs,Zeo];have hfb:double.fractionBits=52:=rfl;rw[hfb];have hlast:max (-(e:Int)+((m.log2+e:Nat):Int)- ((52:Nat):Int)) (-1074)=(m.log2:Int)-52:=by omega
  simp only[hlast];have hkept:Toward.even.cut s ((m*2^e)<<< (-(e:Int)- ((m.log2:Int)-52)).toNat) ((m.log2:Int)-52- -(e:Int)).toNat=m*2^ (52-m.log2):=by
    by_cases c:e≤52-m.log2
    · rw[show((m.log2:Int)-52- -(e:Int)).toNat=0 by omega,show(-(e:Int)- ((m.log2:Int)-52)).toNat=52-m.log2-e by omega,Zj0,Nat.shiftLeft_eq,Nat.mul_assoc,←Nat.pow_add]
      congr 2;omega
    · rw[show(-(e:Int)- ((m.log2:Int)-52)).toNat=0 by omega,Nat.shiftLeft_zero,show((m.log2:Int)-52- -(e:Int)).toNat=e- (52-m.log2)by omega]
      have:m*2^e=m*2^ (52-m.log2)*2^ (e- (52-m.log2)):=by
        rw[Nat.mul_assoc,←Nat.pow_add];congr 2;omega
      rw[this];exact ZhN s _ _ (Nat.mul_pos hm (Nat.two_pow_pos _))
  rw[hkept,show((m.log2:Int)-52- -1074).toNat=m.log2+1022 by omega];have hup:m*2^ (52-m.log2)<2^53:=by
    have h1:m<2^ (m.log2+1):=Nat.lt_log2_self;have h2:m*2^ (52-m.log2)<2^ (m.log2+1)*2^ (52-m.log2):=Nat.mul_lt_mul_of_pos_right h1 (Nat.two_pow_pos _);rw[←Nat.pow_add,show m.log2+1+(52-m.log2)=53 by omega]at h2;exact h2
  rw[Nat.min_eq_left];have:(m.log2+1022)*2^52≤1074*2^52:=Nat.mul_le_mul_right _ (by omega);generalize m*2^ (52-m.log2)=X at hup ⊢;generalize m.log2=L at hlg ⊢;clear hlast hkept hle hfb this;rw[e52];rw[e53]at hup;omega
theorem write_any (n:Int)(e:Nat)(hb:n.natAbs<2^53):double.write (.number (decide (n<0)) (n.natAbs*2^e) (-(e:Int)))=fi n:=by
 by_cases h0:n=0
 ·exact ZgE n e hb (.inr h0)
 ·rw[Zi8 n h0 hb]
  exact ZiN _ _ _ (by omega) hb
theorem Zpw (a b:Int)(ha:0≤a∧a<2^52)(hb:0≤b∧b<2^52):double.add (fi a) (fi b)=some (fi (a+b)):=by
 obtain⟨e,_,he,he2⟩:=Zfj a (by omega);obtain⟨d,_,hd,hd2⟩:=Zfj b (by omega);unfold Format.add;rw[he,hd];simp only[Datum.sum,ZeS,Option.map_some];rw[show e+(-(e:Int)-min (-(e:Int)) (-(d:Int))).toNat=max e d by omega,show d+(-(d:Int)-min (-(e:Int)) (-(d:Int))).toNat=max e d by omega,←Int.add_mul,show min (-(e:Int)) (-(d:Int))= -((max e d:Nat):Int)by omega];congr 1;have hp:=Zeu (max e d);have hn:((a+b)*2^max e d).natAbs=(a+b).natAbs*2^max e d:=by
  rw[Int.natAbs_mul];simp[Int.natAbs_pow]
 have hneg:(if(a+b)*2^max e d=0 then(decide (a<0)&&decide (b<0))else decide ((a+b)*2^max e d<0))=decide (a+b<0):=by
  by_cases c:a+b=0
  ·rw[c,Int.zero_mul,if_pos rfl]
   simp[show¬a<0 by omega]
  ·rw[if_neg (by intro h;rcases Int.mul_eq_zero.1 h with h|h<;>omega)]
   rw[decide_eq_false (show¬a+b<0 by omega),decide_eq_false (by have:=Int.mul_pos (show 0<a+b by omega) hp;omega)]
 rw[hn,hneg];exact write_any (a+b) _ (by omega)
theorem Zgz {t:TypeId}{x y:Operand}{a b c d:Int}(ha:0≤a∧a<2^52)(hb:0≤b∧b<2^52)(hc:0≤c∧c<2^52)(hd:0≤d∧d<2^52)(w:World):
  (do eqGuard .add t x y (.complex .f64 (floatOfInt .f64 a) (floatOfInt .f64 b)) (.complex .f64 (floatOfInt .f64 c) (floatOfInt .f64 d));binOp .add t (.complex .f64 (floatOfInt .f64 a) (floatOfInt .f64 b)) (.complex .f64 (floatOfInt .f64 c) (floatOfInt .f64 d)):Sem Value).run Tryz.prog w= .ok (.complex .f64 (floatOfInt .f64 (a+c)) (floatOfInt .f64 (b+d))) w:=by
 have h1:=Zpw a c ha hc;have h2:=Zpw b d hb hd;simp only[Zr3]at h1 h2;simp only[eqGuard,binOp,Op.complexOp,Op.Complex.arith,Op.floatArith,Sem.run_bind];show _=_;simp[FloatKind.format,h1,h2]
end Go.Proofs.YtfhkgohokbkgiaaGreatDoor
namespace Go.Proofs.YtfhkgohokbkgiaaGreatDoor
open Go.RowKit G Tryz
def Zes :Enc Acc:=⟨2,by decide,fun a=> [.complex .f64 (floatOfInt .f64 a.own) (floatOfInt .f64 a.got),.complex .f64 (floatOfInt .f64 a.idle) (floatOfInt .f64 a.freed)],fun _=>rfl,by intro a u hu;simp at hu;rcases hu with rfl|rfl<;>rfl⟩
def ldS (b:Nat)(l:List Acc):SP:=exS fun r:Nat=>two (Zcl (LdOk l 1125899906842624∧1≤l.length∧l.length≤6)) (two (blk b 133 [.slice (some ⟨r,0,none⟩) l.length l.length]) (row Zes 170 (.slice (some ⟨r,0,none⟩) l.length l.length) l))
theorem Sat.openLd {b:Nat}{l:List Acc}{H:List SP}{w:World}(h:Sat w (ldS b l::H)):∃r,(LdOk l 1125899906842624∧1≤l.length∧l.length≤6)∧Sat w (blk b 133 [.slice (some ⟨r,0,none⟩) l.length l.length]::row Zes 170 (.slice (some ⟨r,0,none⟩) l.length l.length) l::H):=by
 obtain⟨r,h⟩:=Sat.openEx h;obtain⟨h1,h⟩:=Sat.openPure (Sat.openTwo h);exact⟨r,h1,Sat.openTwo h⟩
theorem Sat.closeLd {b r:Nat}{l:List Acc}{H:List SP}{w:World}(h1:LdOk l 1125899906842624∧1≤l.length∧l.length≤6)(h:Sat w (blk b 133 [.slice (some ⟨r,0,none⟩) l.length l.length]::row Zes 170 (.slice (some ⟨r,0,none⟩) l.length l.length) l::H)):Sat w (ldS b l::H):=
 Sat.closeEx r (Sat.closeTwo (Sat.closePure h1 (Sat.closeTwo h)))
theorem ZkU (H:List SP)(n:Int):U1 41 #[vi n] H (ι:=Nat) (fun b=>vp b) fun b=>ldS b (List.replicate (mnI (mxI n 1) 6).toNat ⟨0,0,0,0⟩)::H:=by
 refine eG func41 9 ?_;refine Xq<|Xg 1<|Be<|Xq (Xg 7 (Cr 4 3 [(2,.pointer none),(5,vi (mnI (mxI n 1) 6))] ?_));have hm:0≤mnI (mxI n 1) 6∧mnI (mxI n 1) 6≤6∧1≤mnI (mxI n 1) 6:=by unfold mnI mxI;repeat' split<;>omega
 obtain⟨m,hme⟩:∃m:Nat,mnI (mxI n 1) 6=(m:Int):=⟨(mnI (mxI n 1) 6).toNat,by omega⟩
 rw[hme]at hm ⊢;rw[Int.toNat_natCast];exact Bx 3 (mkK (E:=Zes) (T:=170) 131 (.tmp 5) (.tmp 5) m (⟨0,0,0,0⟩:Acc) (.agg #[.complex .f64 0 0,.complex .f64 0 0]) 32 (some 6) (fun _=>Kr) Kr Kr (fun _=>Kr) (fun _=>Kr) underlying131 Kr Kr rfl (by decide) (by omega)) fun b1=>Br 2 1<|Bx 1 (Xn 133 [.slice (s0 b1) m m] (some 8) (fun b=>vp b)) fun b2=>Be<|Xv (Y0 (vp b2) fun w hs=>⟨b2,rfl,Sat.closeLd (r:=b1) (l:=List.replicate m ⟨0,0,0,0⟩) ⟨fun a ha=>by rw[(List.mem_replicate.1 ha).2];exact AccIn.zero (by decide) (by decide) (by decide) (by decide),by rw[List.length_replicate];omega,by rw[List.length_replicate];omega⟩ (by rw[List.length_replicate];exact hs)⟩)
theorem Zdp (H:List SP)(b r:Nat)(l:List Acc)(d:Int)(x:Acc)(hl:l.length≤6)(hb:LdOk l 1125899906842625)(hx:AccIn x ⟨1,1,1,1⟩):U0 53 #[vp b,vi d,.complex .f64 (floatOfInt .f64 x.own) (floatOfInt .f64 x.got),.complex .f64 (floatOfInt .f64 x.idle) (floatOfInt .f64 x.freed)] (blk b 133 [.slice (some ⟨r,0,none⟩) l.length l.length]::row Zes 170 (.slice (some ⟨r,0,none⟩) l.length l.length) l::H) (.tuple #[]) (blk b 133 [.slice (some ⟨r,0,none⟩) (Za7 l d x).length (Za7 l d x).length]::row Zes 170 (.slice (some ⟨r,0,none⟩) (Za7 l d x).length (Za7 l d x).length) (Za7 l d x)::H):=by
 refine eG func53 43 ?_;refine Xq (Xg 11 (Xr [(0,vp b),(1,vi d),(2,.complex .f64 (floatOfInt .f64 x.own) (floatOfInt .f64 x.got)),(3,.complex .f64 (floatOfInt .f64 x.idle) (floatOfInt .f64 x.freed)),(10,.bool (decide (d≥0)))] ?_ 8 3));refine(Xs0 0 8 [(0,vp b),(1,vi d),(2,.complex .f64 (floatOfInt .f64 x.own) (floatOfInt .f64 x.got)),(3,.complex .f64 (floatOfInt .f64 x.idle) (floatOfInt .f64 x.freed)),(18,.bool ((decide (d≥0))&& (decide (d< (l.length:Int)))))] ?_ ?_:RT _ _ _ _ _ _ 8 _)
 ·cases hg3:(decide (d≥0))with
  |true=>
   refine Xm [(0,vp b),(1,vi d),(2,.complex .f64 (floatOfInt .f64 x.own) (floatOfInt .f64 x.got)),(3,.complex .f64 (floatOfInt .f64 x.idle) (floatOfInt .f64 x.freed)),(18,.bool (decide (d< (l.length:Int))))] [(⟨b,0,none⟩,.slice (some ⟨r,0,none⟩) l.length l.length)] (hasC (ba 0) Zaa) ?_ 8;refine Xp [(0,vp b),(1,vi d),(2,.complex .f64 (floatOfInt .f64 x.own) (floatOfInt .f64 x.got)),(3,.complex .f64 (floatOfInt .f64 x.idle) (floatOfInt .f64 x.freed)),(18,.bool (true&& (decide (d< (l.length:Int)))))] ?_;exact Zcm () rfl rfl
  |false=>
   refine Ae 8 ?_;refine Xp [(0,vp b),(1,vi d),(2,.complex .f64 (floatOfInt .f64 x.own) (floatOfInt .f64 x.got)),(3,.complex .f64 (floatOfInt .f64 x.idle) (floatOfInt .f64 x.freed)),(18,.bool (false&& (decide (d< (l.length:Int)))))] ?_;exact Zcm () rfl rfl
 refine endR ?_;cases hd:((decide (d≥0))&& (decide (d< (l.length:Int))))with
 |true=>
  have hd1:Zd3 l d=true:=by rw[Zd3];simpa using hd
  obtain⟨i,rfl⟩:∃i:Nat,d=(i:Int):=⟨d.toNat,by simp at hd;omega⟩
  have hil:i<l.length:=by simp at hd;omega
  obtain⟨a,ha⟩:∃a,l[i]? =some a:=⟨_,gEe hil⟩
  have hab:=hb a (gMm ha);have hab':(0≤a.own∧a.own<2^52)∧(0≤a.got∧a.got<2^52)∧(0≤a.idle∧a.idle<2^52)∧(0≤a.freed∧a.freed<2^52):=by obtain⟨h1,h2,h3,h4⟩:=hab;simp only[acK]at h1 h2 h3 h4;omega
  have hxb':(0≤x.own∧x.own<2^52)∧(0≤x.got∧x.got<2^52)∧(0≤x.idle∧x.idle<2^52)∧(0≤x.freed∧x.freed<2^52):=by obtain⟨h1,h2,h3,h4⟩:=hx;simp only at h1 h2 h3 h4;omega
  obtain⟨a1,a2,a3,a4⟩:=hab';obtain⟨x1,x2,x3,x4⟩:=hxb';have he:Za7 l (i:Int) x=(l.set i ⟨a.own+x.own,a.got+x.got,a.idle,a.freed⟩).set i ⟨a.own+x.own,a.got+x.got,a.idle+x.idle,a.freed+x.freed⟩:=by rw[Za7,if_pos hd1,Int.toNat_natCast,List.getD_eq_getElem?_getD,ha,List.set_set];rfl
  refine Xc true (fun _=>?_) (fun h=>by cases h);refine Xq (Xg 13 (Al [(⟨b,0,none⟩,.slice (some ⟨r,0,none⟩) l.length l.length)] (hasC (ba 0) Zaa) ?_ 8 5));refine Xs (Zav (Xi 131 (.tmp 22) (.tmp 23) r 0 l.length l.length i 2 170 (i:Int) 24 underlying131)) (fun _=>?_) 7;refine Al [(⟨r,0+i*2,none⟩,.complex .f64 (floatOfInt .f64 a.own) (floatOfInt .f64 a.got))] (hasC (Zac (E:=Zes) (xs:=l) 1 rfl (x:=a) ha (j:=0) rfl) Zaa) ?_ 4 3;refine Xs (Zav (ZoQ .add 135 135 (.tmp 26) (.tmp 27) (.complex .f64 (floatOfInt .f64 a.own) (floatOfInt .f64 a.got)) (.complex .f64 (floatOfInt .f64 x.own) (floatOfInt .f64 x.got)) (.complex .f64 (floatOfInt .f64 (a.own+x.own)) (floatOfInt .f64 (a.got+x.got))) (some 28) (fun _=>Kr) Kr Kr (fun _=>Kr) (fun _=>Kr) (Zgz a1 a2 x1 x2))) (fun _=>?_) 3;refine Xs (Zav (Xi 131 (.tmp 22) (.tmp 23) r 0 l.length l.length i 2 170 (i:Int) 29 underlying131)) (fun _=>?_) 2;refine Ar ?_ 1 1;refine Xh0 ?_ 1 1;refine Xs (ZdU (E:=Zes) (J:=i) (j:=0) a (⟨a.own+x.own,a.got+x.got,a.idle,a.freed⟩:Acc) (.complex .f64 (floatOfInt .f64 (a.own+x.own)) (floatOfInt .f64 (a.got+x.got))) ⟨r,0+i*2,none⟩ (fun _=>Kr) (by first|rfl|simp) (ha) (rfl) (by decide)) (fun _=>?_) 0;refine endR ?_;refine Xg 13 (Al [(⟨b,0,none⟩,.slice (some ⟨r,0,none⟩) l.length l.length)] (hasC (ba 1) Zaa) ?_ 8 5);refine Xs (Zav (Xi 131 (.tmp 34) (.tmp 35) r 0 l.length l.length i 2 170 (i:Int) 36 underlying131)) (fun _=>?_) 7;refine Al [(⟨r,0+i*2+1,none⟩,.complex .f64 (floatOfInt .f64 a.idle) (floatOfInt .f64 a.freed))] (hasC (Zac (E:=Zes) (xs:=l.set i ⟨a.own+x.own,a.got+x.got,a.idle,a.freed⟩) 0 rfl (x:=⟨a.own+x.own,a.got+x.got,a.idle,a.freed⟩) (by rw[List.getElem?_set_self hil]) (j:=1) rfl) Zaa) ?_ 4 3;refine Xs (Zav (ZoQ .add 135 135 (.tmp 38) (.tmp 39) (.complex .f64 (floatOfInt .f64 a.idle) (floatOfInt .f64 a.freed)) (.complex .f64 (floatOfInt .f64 x.idle) (floatOfInt .f64 x.freed)) (.complex .f64 (floatOfInt .f64 (a.idle+x.idle)) (floatOfInt .f64 (a.freed+x.freed))) (some 40) (fun _=>Kr) Kr Kr (fun _=>Kr) (fun _=>Kr) (Zgz a3 a4 x3 x4))) (fun _=>?_) 3;refine Xs (Zav (Xi 131 (.tmp 34) (.tmp 35) r 0 l.length l.length i 2 170 (i:Int) 41 underlying131)) (fun _=>?_) 2;refine Ar ?_ 1 1;refine Xs (ZdU (E:=Zes) (J:=i) (j:=1) (⟨a.own+x.own,a.got+x.got,a.idle,a.freed⟩:Acc) (⟨a.own+x.own,a.got+x.got,a.idle+x.idle,a.freed+x.freed⟩:Acc) (.complex .f64 (floatOfInt .f64 (a.idle+x.idle)) (floatOfInt .f64 (a.freed+x.freed))) ⟨r,0+i*2+1,none⟩ (fun _=>Kr) (by first|rfl|simp) ((by rw[List.getElem?_set_self hil])) (rfl) (by decide)) (fun _=>?_) 0;refine endR ?_;refine Y1 (.tuple #[]) (fun w hs=>?_);exact⟨(),rfl,by rw[he,List.length_set,List.length_set];exact SatF.swap hs⟩
 |false=>
  have hd1:Zd3 l d=false:=by rw[Zd3];simpa using hd
  refine Xc false (fun h=>by cases h) (fun _=>?_);refine Xk (Y1 (.tuple #[]) (fun w hs=>?_));exact⟨(),rfl,by rw[Za7,if_neg (by rw[hd1];simp)];exact hs⟩
theorem Zdw (H:List SP)(x:Acc)(hx:AccIn x (acK 9007199254740991)):US 76 #[.agg #[.complex .f64 (floatOfInt .f64 x.own) (floatOfInt .f64 x.got),.complex .f64 (floatOfInt .f64 x.idle) (floatOfInt .f64 x.freed)]] H (.agg #[vi x.own,vi x.got,vi x.idle,vi x.freed]):=by
 refine eG func76 20 ?_;have hb:x.own.natAbs<2^53∧x.got.natAbs<2^53∧x.idle.natAbs<2^53∧x.freed.natAbs<2^53:=by obtain⟨h1,h2,h3,h4⟩:=hx;simp only[acK]at h1 h2 h3 h4;omega
 refine Xq<|Xg 2<|Bx 1 (Xn 170 [.complex .f64 (floatOfInt .f64 x.own) (floatOfInt .f64 x.got),.complex .f64 (floatOfInt .f64 x.idle) (floatOfInt .f64 x.freed)] (some 1) (fun b=>vp b)) fun b1=>Bx 0 (Xn 102 [vi 0,vi 0,vi 0,vi 0] (some 2) (fun b=>vp b)) fun b2=>endR<|Xq<|Xg 18<|Bl 15 3 [(⟨b1,0,none⟩,.complex .f64 (floatOfInt .f64 x.own) (floatOfInt .f64 x.got))] (hasC (ba 1) Zaa)<|Bs 14 (Zav (Zsf 241 3 (.tmp 5) (.float .f64 (floatOfInt .f64 x.own)) (.int .i64 x.own) (some 6) (fun _=>Kr) Kr Kr (fun _=>Kr) (Zfm hb.1)))<|Bl 11 3 [(⟨b1,0,none⟩,.complex .f64 (floatOfInt .f64 x.own) (floatOfInt .f64 x.got))] (hasC (ba 1) Zaa)<|Bs 10 (Zav (Zsf 241 3 (.tmp 9) (.float .f64 (floatOfInt .f64 x.got)) (.int .i64 x.got) (some 10) (fun _=>Kr) Kr Kr (fun _=>Kr) (Zfm hb.2.1)))<|Bl 7 3 [(⟨b1,1,none⟩,.complex .f64 (floatOfInt .f64 x.idle) (floatOfInt .f64 x.freed))] (hasC (ba 1) Zaa)<|Bs 6 (Zav (Zsf 241 3 (.tmp 13) (.float .f64 (floatOfInt .f64 x.idle)) (.int .i64 x.idle) (some 14) (fun _=>Kr) Kr Kr (fun _=>Kr) (Zfm hb.2.2.1)))<|Bl 3 3 [(⟨b1,1,none⟩,.complex .f64 (floatOfInt .f64 x.idle) (floatOfInt .f64 x.freed))] (hasC (ba 1) Zaa)<|Bs 2 (Zav (Zsf 241 3 (.tmp 17) (.float .f64 (floatOfInt .f64 x.freed)) (.int .i64 x.freed) (some 18) (fun _=>Kr) Kr Kr (fun _=>Kr) (Zfm hb.2.2.2)))<|Br 1 1<|Bs 0 (Xz [(0,vi x.own),(1,vi x.got),(2,vi x.idle),(3,vi x.freed)])<|endR<|Xv<|dB 0 (.agg #[.int .i64 x.own,.int .i64 x.got,.int .i64 x.idle,.int .i64 x.freed]) (fun w hs=>?_)
 exact⟨(),rfl,hs.tail.tail⟩
theorem fo0 :floatOfInt .f64 0=0:=by decide
theorem fo1 :floatOfInt .f64 1=4607182418800017408:=by decide
abbrev acO :Acc:=⟨1,0,0,0⟩
abbrev acG :Acc:=⟨0,1,0,0⟩
abbrev acI :Acc:=⟨0,0,1,0⟩
abbrev acF :Acc:=⟨0,0,0,1⟩
theorem ZrL (H:List SP)(b r:Nat)(l:List Acc)(d:Int)(hl:l.length≤6)(hb:LdOk l 1125899906842625):U0 53 #[vp b,vi d,.complex .f64 4607182418800017408 0,.complex .f64 0 0] (blk b 133 [.slice (s0 r) l.length l.length]::row Zes 170 (.slice (s0 r) l.length l.length) l::H) (.tuple #[]) (blk b 133 [.slice (s0 r) (Za7 l d acO).length (Za7 l d acO).length]::row Zes 170 (.slice (s0 r) (Za7 l d acO).length (Za7 l d acO).length) (Za7 l d acO)::H):=by
 have h:=Zdp H b r l d acO hl hb (by unfold AccIn;decide)
 rwa[show acO.own=1 from rfl,show acO.got=0 from rfl,show acO.idle=0 from rfl,show acO.freed=0 from rfl,fo0,fo1]at h
theorem ldaddG (H:List SP)(b r:Nat)(l:List Acc)(d:Int)(hl:l.length≤6)(hb:LdOk l 1125899906842625):U0 53 #[vp b,vi d,.complex .f64 0 4607182418800017408,.complex .f64 0 0] (blk b 133 [.slice (s0 r) l.length l.length]::row Zes 170 (.slice (s0 r) l.length l.length) l::H) (.tuple #[]) (blk b 133 [.slice (s0 r) (Za7 l d acG).length (Za7 l d acG).length]::row Zes 170 (.slice (s0 r) (Za7 l d acG).length (Za7 l d acG).length) (Za7 l d acG)::H):=by
 have h:=Zdp H b r l d acG hl hb (by unfold AccIn;decide)
 rwa[show acG.own=0 from rfl,show acG.got=1 from rfl,show acG.idle=0 from rfl,show acG.freed=0 from rfl,fo0,fo1]at h
theorem ldaddI (H:List SP)(b r:Nat)(l:List Acc)(d:Int)(hl:l.length≤6)(hb:LdOk l 1125899906842625):U0 53 #[vp b,vi d,.complex .f64 0 0,.complex .f64 4607182418800017408 0] (blk b 133 [.slice (s0 r) l.length l.length]::row Zes 170 (.slice (s0 r) l.length l.length) l::H) (.tuple #[]) (blk b 133 [.slice (s0 r) (Za7 l d acI).length (Za7 l d acI).length]::row Zes 170 (.slice (s0 r) (Za7 l d acI).length (Za7 l d acI).length) (Za7 l d acI)::H):=by
 have h:=Zdp H b r l d acI hl hb (by unfold AccIn;decide)
 rwa[show acI.own=0 from rfl,show acI.got=0 from rfl,show acI.idle=1 from rfl,show acI.freed=0 from rfl,fo0,fo1]at h
theorem ldaddF (H:List SP)(b r:Nat)(l:List Acc)(d:Int)(hl:l.length≤6)(hb:LdOk l 1125899906842625):U0 53 #[vp b,vi d,.complex .f64 0 0,.complex .f64 0 4607182418800017408] (blk b 133 [.slice (s0 r) l.length l.length]::row Zes 170 (.slice (s0 r) l.length l.length) l::H) (.tuple #[]) (blk b 133 [.slice (s0 r) (Za7 l d acF).length (Za7 l d acF).length]::row Zes 170 (.slice (s0 r) (Za7 l d acF).length (Za7 l d acF).length) (Za7 l d acF)::H):=by
 have h:=Zdp H b r l d acF hl hb (by unfold AccIn;decide)
 rwa[show acF.own=0 from rfl,show acF.got=0 from rfl,show acF.idle=0 from rfl,show acF.freed=1 from rfl,fo0,fo1]at h
theorem Zho (H:List SP)(b r:Nat)(l:List Acc)(o f v:Int)(hl:l.length≤6)(hb:LdOk l 1125899906842623):U0 19 #[vp b,vi o,vi f,vi v] (blk b 133 [.slice (some ⟨r,0,none⟩) l.length l.length]::row Zes 170 (.slice (some ⟨r,0,none⟩) l.length l.length) l::H) (.tuple #[]) (blk b 133 [.slice (some ⟨r,0,none⟩) (Za1 l o f v).length (Za1 l o f v).length]::row Zes 170 (.slice (some ⟨r,0,none⟩) (Za1 l o f v).length (Za1 l o f v).length) (Za1 l o f v)::H):=by
 have h0:LdOk l 1125899906842625:=hb.mono (by decide);have hA:∀d,LdOk (Za7 l d acO) 1125899906842625:=fun d=>(LdIn.add hb d (x:=acO) (by decide) (by decide) (by decide) (by decide)).le (by decide) (by decide) (by decide) (by decide)
 have hG:∀d,LdOk (Za7 l d acG) 1125899906842625:=fun d=>(LdIn.add hb d (x:=acG) (by decide) (by decide) (by decide) (by decide)).le (by decide) (by decide) (by decide) (by decide)
 have hI:∀d e,LdOk (Za7 (Za7 l d acG) e acI) 1125899906842625:=fun d e=>((LdIn.add hb d (x:=acG) (by decide) (by decide) (by decide) (by decide)).add e (x:=acI) (by decide) (by decide) (by decide) (by decide)).le (by decide) (by decide) (by decide) (by decide)
 refine eG func19 34 ?_;refine Xq (Xq (Xg 11 (Xr [(0,vp b),(1,vi o),(2,vi f),(3,vi v),(10,.bool (decide (o<0)))] ?_ 8 3)));refine(Xs0 0 8 [(0,vp b),(1,vi o),(2,vi f),(3,vi v),(18,.bool ((decide (o<0))||(decide (o≥(l.length:Int)))))] ?_ ?_:RT _ _ _ _ _ _ 8 _)
 ·cases hg3:(decide (o<0))with
  |true=>
   refine Ae 8 ?_;refine Xp [(0,vp b),(1,vi o),(2,vi f),(3,vi v),(18,.bool (true||(decide (o≥(l.length:Int)))))] ?_;exact Zcm () rfl rfl
  |false=>
   refine Xm [(0,vp b),(1,vi o),(2,vi f),(3,vi v),(18,.bool (decide (o≥(l.length:Int))))] [(⟨b,0,none⟩,.slice (some ⟨r,0,none⟩) l.length l.length)] (hasC (ba 0) Zaa) ?_ 8;refine Xp [(0,vp b),(1,vi o),(2,vi f),(3,vi v),(18,.bool (false||(decide (o≥(l.length:Int)))))] ?_;exact Zcm () rfl rfl
 refine endR ?_;cases hd:((decide (o<0))||(decide (o≥(l.length:Int))))with
 |true=>
  have hd1:Zd3 l o=false:=by rw[Zd3];simp at hd ⊢;omega
  refine Xc true (fun _=>?_) (fun h=>by cases h);refine Xv (Zab (Y0 (.tuple #[]) (fun w hs=>?_)));exact⟨(),rfl,by rw[Za1,if_pos hd1];exact hs⟩
 | false=>
  have hd1:Zd3 l o=true:=by rw[Zd3];simp at hd ⊢;omega
  refine Xc false (fun h=>by cases h) (fun _=>?_);refine Xk (Xq (Xq (Xg 3 (Ae 3 ?_))));refine Xc (v==o) (fun h1=>?_) (fun h1=>?_)
  ·have h1':v=o:=eq_of_beq h1;refine Xg 3 (Ar ?_ 1 2);refine Xs (Xa (some 24) _ (ZrL _ b r l o hl h0)) (fun _=>?_) 0;refine endR ?_;refine Xg 3 (Ar ?_ 1 2);refine Xs (Xa (some 33) _ (ldaddF _ b r (Za7 l o acO) f (by rw[ZcJ];exact hl) (hA o))) (fun _=>?_) 0;refine endR ?_;refine Y1 (.tuple #[]) (fun w hs=>?_);exact⟨(),rfl,by rw[Za1,if_neg (by rw[hd1];simp),Zcb,if_pos h1'];exact hs⟩
  ·have h1':¬v=o:=beq_eq_false_iff_ne.1 h1;refine Xq (Xg 3 (Ar ?_ 1 2));refine Xs (Xa (some 27) _ (ldaddG _ b r l v hl h0)) (fun _=>?_) 0;refine endR ?_;refine Xg 3 (Ar ?_ 1 2);refine Xs (Xa (some 30) _ (ldaddI _ b r (Za7 l v acG) o (by rw[ZcJ];exact hl) (hG v))) (fun _=>?_) 0;refine endR ?_;refine Xg 3 (Ar ?_ 1 2);refine Xs (Xa (some 33) _ (ldaddF _ b r (Za7 (Za7 l v acG) o acI) f (by rw[ZcJ,ZcJ];exact hl) (hI v o))) (fun _=>?_) 0;refine endR ?_;refine Y1 (.tuple #[]) (fun w hs=>?_);exact⟨(),rfl,by rw[Za1,if_neg (by rw[hd1];simp),Zcb,if_neg h1'];exact hs⟩
theorem ZmJ (H:List SP)(b:Nat)(l:List Acc)(o f v:Int)(hb:LdOk l 1125899906842623):U0 19 #[vp b,vi o,vi f,vi v] (ldS b l::H) (.tuple #[]) (ldS b (Za1 l o f v)::H):=fun w hs=>by
 obtain⟨r,h1,hs⟩:=Sat.openLd hs;exact(Zho H b r l o f v h1.2.2 hb w hs).mono fun e w' ⟨_,he,hx⟩=>⟨(),he,Sat.closeLd ⟨(hb.count o f v).mono (by decide),by rw[Ze9];exact h1.2⟩ hx⟩
theorem ZkV (H:List SP)(b r:Nat)(l:List Acc)(d:Int)(hl:l.length≤6)(hb:LdOk l 1125899906842624):US 118 #[vp b,vi d] (blk b 133 [.slice (some ⟨r,0,none⟩) l.length l.length]::row Zes 170 (.slice (some ⟨r,0,none⟩) l.length l.length) l::H) (.agg #[vi (ZaF l d).own,vi (ZaF l d).got,vi (ZaF l d).idle,vi (ZaF l d).freed]):=by
 refine eG func118 25 ?_;refine Xq (Xg 1 (Xs (Xn 102 [vi 0,vi 0,vi 0,vi 0] (some 4) (fun b=>vp b)) (fun b1=>?_) 0));refine endR ?_;refine Xq (Xq (Xg 11 (Xr [(4,vp b1),(0,vp b),(1,vi d),(7,.bool (decide (d<0)))] ?_ 8 3)));refine(Xs0 0 8 [(4,vp b1),(0,vp b),(1,vi d),(15,.bool ((decide (d<0))||(decide (d≥(l.length:Int)))))] ?_ ?_:RT _ _ _ _ _ _ 8 _)
 ·cases hg3:(decide (d<0))with
  |true=>
   refine Ae 8 ?_;exact mA ()
  |false=>
   refine Xm [(4,vp b1),(0,vp b),(1,vi d),(15,.bool (decide (d≥(l.length:Int))))] [(⟨b,0,none⟩,.slice (some ⟨r,0,none⟩) l.length l.length)] (hasC (ba 1) Zaa) ?_ 8;refine Xp [(4,vp b1),(0,vp b),(1,vi d),(15,.bool (false||(decide (d≥(l.length:Int)))))] ?_;exact Zcm () rfl rfl
 refine endR ?_;cases hd:((decide (d<0))||(decide (d≥(l.length:Int))))with
 |true=>
  have hd1:Zd3 l d=false:=by rw[Zd3];simp at hd ⊢;omega
  refine Xc true (fun _=>?_) (fun h=>by cases h);refine Xq (Xg 2 (Ar ?_ 1 1));refine Xs (Xz [(0,vi 0),(1,vi 0),(2,vi 0),(3,vi 0)]) (fun _=>?_) 0;refine endR ?_;refine Xv (Zab ?_);refine dB 0 (.agg #[.int .i64 0,.int .i64 0,.int .i64 0,.int .i64 0]) (fun w hs=>?_);exact⟨(),by rw[ZaF,if_neg (by rw[hd1];simp)],hs.tail⟩
 |false=>
  have hd1:Zd3 l d=true:=by rw[Zd3];simp at hd ⊢;omega
  obtain⟨i,rfl⟩:∃i:Nat,d=(i:Int):=⟨d.toNat,by simp at hd;omega⟩
  have hil:i<l.length:=by simp at hd;omega
  obtain⟨a,ha⟩:∃a,l[i]? =some a:=⟨_,gEe hil⟩
  have hab:=(hb a (gMm ha)).le (n:=acK 9007199254740991) (by decide) (by decide) (by decide) (by decide);have he:ZaF l (i:Int)=a:=by rw[ZaF,if_pos hd1,Int.toNat_natCast,List.getD_eq_getElem?_getD,ha];rfl
  refine Xc false (fun h=>by cases h) (fun _=>?_);refine Xk (Xq (Xg 9 (Al [(⟨b,0,none⟩,.slice (some ⟨r,0,none⟩) l.length l.length)] (hasC (ba 1) Zaa) ?_ 4 5)));refine Xs (Zav (Xi 131 (.tmp 20) (.tmp 21) r 0 l.length l.length i 2 170 (i:Int) 22 underlying131)) (fun _=>?_) 3;refine Al [(⟨r,0+i*2,none⟩,.complex .f64 (floatOfInt .f64 a.own) (floatOfInt .f64 a.got)),(⟨r,0+i*2+1,none⟩,.complex .f64 (floatOfInt .f64 a.idle) (floatOfInt .f64 a.freed))] (hasC (Zac (E:=Zes) (xs:=l) 2 rfl (x:=a) ha (j:=0) rfl) (hasC (Zac (E:=Zes) (xs:=l) 2 rfl (x:=a) ha (j:=1) rfl) Zaa)) ?_ 2 1;refine Xs (Xa (some 24) _ (Zdw _ a hab)) (fun _=>?_) 1;refine Xs (Xz [(0,vi a.own),(1,vi a.got),(2,vi a.idle),(3,vi a.freed)]) (fun _=>?_) 0;refine endR ?_;refine Xv ?_;refine dB 0 (.agg #[.int .i64 a.own,.int .i64 a.got,.int .i64 a.idle,.int .i64 a.freed]) (fun w hs=>?_);exact⟨(),by rw[he],hs.tail⟩
theorem ZmK (H:List SP)(b:Nat)(l:List Acc)(d:Int):US 118 #[vp b,vi d] (ldS b l::H) (.agg #[vi (ZaF l d).own,vi (ZaF l d).got,vi (ZaF l d).idle,vi (ZaF l d).freed]):=fun w hs=>by
 obtain⟨r,h1,hs⟩:=Sat.openLd hs;exact(ZkV H b r l d h1.2.2 h1.1 w hs).mono fun e w' ⟨_,he,hx⟩=>⟨(),he,Sat.closeLd h1 hx⟩
theorem ZiT {l:List Acc}{m:Int}(h:LdOk l m)(hm:0≤m)(d:Int):AccIn (ZaF l d) (acK m):=by
 unfold ZaF;split
 ·rename_i hd
  have hl:d.toNat<l.length:=by simp[Zd3]at hd;omega
  rw[List.getD_eq_getElem?_getD,gEe hl];exact h _ (List.getElem_mem hl)
 ·exact AccIn.zero hm hm hm hm
theorem Zqx {b:Nat}{l:List Acc}{H:List SP}(j:Nat)(hj:H[j]? =some (ldS b l)):∀w,Sat w H→LdOk l 1125899906842624:=fun w hs=>by
 obtain⟨_,h,_⟩:=Sat.openLd (Sat.pick j hj hs);exact h.1
theorem Zhp (H:List SP)(b:Nat)(l:List Acc)(d:Int):US 81 #[vp b,vi d] (ldS b l::H) (vi ((ZaF l d).own+(ZaF l d).got)):=by
 refine eG func81 14 ?_;refine PT.know (Zqx 0 rfl) ?_;intro hb;have hin:=ZiT hb (by decide) d;obtain⟨i1,i2,_⟩:=hin;simp only[acK]at i1 i2;refine Xq<|Xg 1<|Be<|Xq<|Xg 5<|Br 3 2<|Bs 2 (Xa (some 8) _ (ZmK _ b l d))<|Bx 1 (Xn 102 [vi 0,vi 0,vi 0,vi 0] (some 5) (fun b=>vp b)) fun b1=>Bs 0 (Xz [(0,vi ((ZaF l d).own)),(1,vi ((ZaF l d).got)),(2,vi ((ZaF l d).idle)),(3,vi ((ZaF l d).freed))])<|endR<|Xq<|Xg 6<|Cm [(4,vi (IntKind.i64.wrap (((ZaF l d).own)+((ZaF l d).got))))] [(⟨b1,0,none⟩,vi ((ZaF l d).own)),(⟨b1,1,none⟩,vi ((ZaF l d).got))] (hasC (ba 0) (hasC (ba 0) Zaa))<|Xv ?_
 rw[show IntKind.i64.wrap (((ZaF l d).own)+((ZaF l d).got))=(((ZaF l d).own)+((ZaF l d).got))by rw[w64 (by omega) (by omega)]];refine Y0 (vi (((ZaF l d).own)+((ZaF l d).got))) (fun w hs=>?_);exact⟨(),rfl,hs.tail⟩
theorem ZfC (N:List Nr)(l:List Int)(i:Int):ZcE N (l++[i])=(Zag (ZcE N l) i true).2:=by simp[ZcE]
theorem ZlC {s:KS}(hk:KOk s)(t:Int){u:Nat}{i:Int}(h:(Zbf t s.tm)[u]? =some i):(Zag (ZcE s.N ((Zbf t s.tm).take u)) i true).1=0:=by
 obtain⟨h1,h2,h3⟩:=ZeE ((Zbf t s.tm).take u) hk.wf;have hoff:Off s.N i:=by
  obtain⟨v,hv,_⟩:=(ZmD t i).1 (gMm h);exact hk.tmo _ hv
 have hnot:i ∉ (Zbf t s.tm).take u:=fun hm=>by
  obtain⟨a,ha⟩:=List.getElem?_of_mem hm;rw[List.getElem?_take]at ha;split at ha
  ·obtain⟨ha1,ha2⟩:=gSs ha
   obtain⟨hu1,hu2⟩:=gSs h;have:=List.pairwise_iff_getElem.1 (hk.tm.due t) a u ha1 hu1 (by assumption);omega
  ·cases ha
 obtain⟨x,hx,ht,_⟩:=(h3 i hnot hoff).get h1.sk;rw[Zag,hx];simp[ht]
theorem ZkY (H:List SP)(k t m o:Nat)(s:KS)(hk:KOk s)(tick:Int):U1 28 #[vp k,vi tick] (blk k 145 [vp t,vp m,vp o,vi s.mt,vi s.mg,vi s.nx]::Za4 t s.N::tmS m s.tm::ZcC o s.ob::H) (ι:=AN) (fun x=> .slice x.1 (ZaZ s tick).1.length x.2) fun x=>row (kE .i64) 3 (.slice x.1 (ZaZ s tick).1.length x.2) (ZaZ s tick).1::blk k 145 [vp t,vp m,vp o,vi (ZaZ s tick).2.mt,vi (ZaZ s tick).2.mg,vi (ZaZ s tick).2.nx]::Za4 t (ZaZ s tick).2.N::tmS m (ZaZ s tick).2.tm::ZcC o (ZaZ s tick).2.ob::H:=by
 have htl:=hk.tml;obtain⟨D,hD⟩:∃D,Zbf tick s.tm=D:=⟨_,rfl⟩
 have hst:=fun u i=>ZlC hk tick (u:=u) (i:=i)
 have hDl:D.length≤60:=by have:=Zdq tick s.tm;rw[hD]at this;omega
 have hkw:ZaZ s tick=(D,{s with N:=ZcE s.N D,tm:=ZaU tick s.tm}):=by rw[ZaZ,hD]
 rw[hD]at hst;rw[hkw];refine eG func28 32 ?_;refine Xq (Xg 1 (Ce [(0,vp k),(1,vi tick),(4,.slice none 0 0)] ?_));refine ZcW 0 (fun(q:AN×Nat)=> [(0,vp k),(5,.slice q.1.1 D.length q.1.2),(6,vi (q.2:Int))]) (fun(q:AN×Nat)=>(Za4 t (ZcE s.N (D.take q.2))::row (kE .i64) 3 (.slice q.1.1 D.length q.1.2) D::tmS m (ZaU tick s.tm)::blk k 145 [vp t,vp m,vp o,vi s.mt,vi s.mg,vi s.nx]::ZcC o s.ob::H)) (fun k (q:AN×Nat)=>k+q.2=D.length) Kr Kr Kr Kr ?_ ?_
 ·rintro k1 ⟨⟨ra,rk⟩,u⟩ hku K hK;simp only at hku;by_cases hu:u<D.length
  ·obtain⟨x,hx⟩:∃x,D[u]? =some x:=⟨_,gEe hu⟩
   have hok:=hst u x hx;have htk:ZcE s.N (D.take (u+1))=(Zag (ZcE s.N (D.take u)) x true).2:=by rw[List.take_add_one,hx];exact ZfC _ _ _
   refine PT.know (KR.isSome (s:=⟨ra,rk,D⟩) (Zad 1 rfl) (List.ne_nil_of_length_pos (by show 0<D.length;omega))) ?_;rintro⟨sb,so,hA⟩;dsimp only at hA;subst hA;refine Xq<|Xq<|Xy0 1 [] 16<|Xt [0,1,2,3,4] [(0,vp k),(5,.slice (sA sb so) D.length rk),(6,vi u),(17,.bool (decide ((u:Int)< (D.length:Int))))] [] Zaa ?_;rw[show(decide ((u:Int)< (D.length:Int)))=true by simp;omega];refine At' [5,6,7,8,9,10] [(⟨k,0,none⟩,vp t)] (hasC (ba 2) Zaa)<|Xu 11 (Xi 42 (.tmp 22) (.tmp 23) sb so D.length rk u 1 3 (u:Int) 24 underlying42)<|At' [12] [(⟨sb,so+u*1,none⟩,vi x)] (hasC (Zac (E:=kE .i64) (xs:=D) 0 rfl (x:=x) hx (j:=0) rfl) Zaa)<|Yo 13 (Xa (some 26) _ (Zkg _ t (N':=(Zag (ZcE s.N (D.take u)) x true).2) (Prod.ext hok rfl)))<|At' [14,15] [] Zaa<|Xd<|cT<|Xq (Xg 3 (Ce [(0,vp k),(5,.slice (sA sb so) D.length rk),(6,vi (IntKind.i64.wrap ((u:Int)+1)))] ?_));refine Zep 0 Kr Kr ?_;rw[show IntKind.i64.wrap ((u:Int)+1)=((u:Int)+1)by rw[w64 (by omega) (by omega)]];rw[show(Zag (ZcE s.N (D.take u)) x true).2=(ZcE s.N (D.take (u+1)))by exact htk.symm];have hJ:=fun(k2 v:Nat) (h1:k2<k1) (h2:k2+v=D.length)=>hK k2 ((some ⟨sb,so,none⟩,rk),v) h1 h2
   simp only at hJ
   change PT _ _ _ (Exit.jump 0 K (fun _ _ _=>True) (.goto 0))
   exact Xp _ (Zen (hJ (k1-1) (u+1) (by omega) (by omega)))
  ·refine Xq<|Xq<|Xy0 1 [] 16<|Xt [0,1,2,3,4] [(0,vp k),(5,.slice ra D.length rk),(6,vi u),(17,.bool (decide ((u:Int)< (D.length:Int))))] [] Zaa ?_;rw[show(decide ((u:Int)< (D.length:Int)))=false by simp;omega];refine At' [5,6,7,8,9,10,11,12,13,14,15] [] Zaa<|Xd<|cF<|Xk<|Xq<|Xg 2<|Be<|Xv (ZcR ?_);have hue:D.take u=D:=List.take_of_length_le (by omega);refine PT.pick 4 rfl<|PT.pick 3 rfl<|PT.pick 2 rfl<|PT.pick 4 rfl<|PT.pick 4 rfl<|Y0 (.slice ra D.length rk) (fun w hs=>?_);exact⟨(ra,rk),rfl,by simp only[hue]at hs;exact hs⟩
 ·intro K hK;refine Xq<|Xg 8<|Bl 3 5 [(⟨k,1,none⟩,vp m)] (hasC (ba 0) Zaa)<|Xh0 ?_ 3 3;refine Xh0 ?_ 2 3;refine Xh0 ?_ 2 3;refine Xh0 ?_ 3 3;refine Bx 2 (Xa (some 12) _ ((hD▸Zri _ m s.tm tick (by omega)))) fun(r:AN)=>Be<|Xq ?_
  refine ZcY Kr ?_;refine PT.pick 4 rfl<|PT.pick 3 rfl<|PT.pick 3 rfl<|PT.pick 3 rfl<|PT.pick 4 rfl<|Xp [(0,vp k),(5,.slice r.1 D.length r.2),(6,vi 0)] ?_;refine ZeC Kr (hK D.length (r,0) (by simp))
section
variable {α :Type}(H:List SP)(k:Nat)(s:KS)
theorem Zhw {s':KS}{f:FuncId}{vs:Array Value}{R:Value}(h:∀t m o,KOk s→∀w,Sat w (blk k 145 [vp t,vp m,vp o,vi s.mt,vi s.mg,vi s.nx]::Za4 t s.N::tmS m s.tm::ZcC o s.ob::H)→Calls Tryz.prog f vs w (Ret (ι:=Unit) (fun _=>R) fun _=>blk k 145 [vp t,vp m,vp o,vi s'.mt,vi s'.mg,vi s'.nx]::Za4 t s'.N::tmS m s'.tm::ZcC o s'.ob::H))(hk:KOk s→KOk s'):∀w,Sat w (Zds k s::H)→Calls Tryz.prog f vs w (Ret (ι:=Unit) (fun _=>R) fun _=>Zds k s'::H):=fun w hs=>by
 obtain⟨t,m,o,h1,hs2⟩:=Sat.openKer hs;exact(h t m o h1 w hs2).mono fun e w' ⟨_,he,hx⟩=>⟨(),he,Sat.closeKer (hk h1) hx⟩
theorem ZsW :U0 33 #[vp k] (Zds k s::H) (.tuple #[vi (ZaP s).1.1,.bool (ZaP s).1.2]) (Zds k (ZaP s).2::H):=
 Zhw H k s (fun t m o _=>ZmP H k t m o s) ZmQ
theorem ZqB (id u:Int):U0 131 #[vp k,vi id,vi u] (Zds k s::H) (Zal (ZaY s id u).1) (Zds k (ZaY s id u).2::H):=
 Zhw H k s (fun t m o h=>ZiX H k t m o s h id u) (fun h=>Zht h id u)
theorem ZrO (id:Int):U0 130 #[vp k,vi id] (Zds k s::H) (Zal (Zbn s id).1) (Zds k (Zbn s id).2::H):=
 Zhw H k s (fun t m o h=>Zk2 H k t m o s h id) (fun h=>ZjK h id)
theorem ZrN (id j:Int):U0 132 #[vp k,vi id,vi j] (Zds k s::H) (.tuple #[.bool (ZaJ s id j).1.1,Zal (ZaJ s id j).1.2]) (Zds k (ZaJ s id j).2::H):=
 Zhw H k s (fun t m o h=>ZkZ H k t m o s h id j) (fun h=>ZjI h id j)
theorem Zov (j:Int):U0 133 #[vp k,vi j] (Zds k s::H) (Zal (ZaA s j).1) (Zds k (ZaA s j).2::H):=
 Zhw H k s (fun t m o h=>Zhu H k t m o s h j) (fun h=>ZfV h j)
theorem ZqA (hid:s.nx≤1099511627776)(par wt:Int):U0 80 #[vp k,vi par,vi wt] (Zds k s::H) (.tuple #[vi (Zau s par wt).1.1,Zal (Zau s par wt).1.2]) (Zds k (Zau s par wt).2::H):=
 Zhw H k s (fun t m o h=>Zfa H k t m o s h hid par wt) (fun h=>Zfb h par wt)
theorem ZqD (hid:s.nx≤1099511627776)(par wt:Int):U0 129 #[vp k,vi par,vi wt] (Zds k s::H) (.tuple #[vi (ZaC s par wt).1.1,Zal (ZaC s par wt).1.2]) (Zds k (ZaC s par wt).2::H):=
 Zhw H k s (fun t m o h=>ZiZ H k t m o s h hid par wt) (fun h=>Zhv h par wt)
theorem ZrM (t:Int):U1 28 #[vp k,vi t] (Zds k s::H) (ι:=AN) (fun x=> .slice x.1 (ZaZ s t).1.length x.2) fun x=>row (kE .i64) 3 (.slice x.1 (ZaZ s t).1.length x.2) (ZaZ s t).1::Zds k (ZaZ s t).2::H:=fun w hs=>by
 obtain⟨tr,m,o,h1,hs2⟩:=Sat.openKer hs;exact(ZkY H k tr m o s h1 t w hs2).mono fun e w' ⟨x,he,hx⟩=>⟨x,he,SatF.swap (Sat.closeKer (H:=row (kE .i64) 3 (.slice x.1 (ZaZ s t).1.length x.2) (ZaZ s t).1::H) (ZjH h1 t) (Sat.perm (List.perm_middle (a:=row (kE .i64) 3 (.slice x.1 (ZaZ s t).1.length x.2) (ZaZ s t).1) (l₁:=[_,_,_,_]) (l₂:=H)).symm hx))⟩
theorem ZrR {E:Enc α}{T:TypeId}{L:List α}{f:FuncId}{vs:Array Value}(h:∀t m o,KOk s→∀w,Sat w (blk k 145 [vp t,vp m,vp o,vi s.mt,vi s.mg,vi s.nx]::Za4 t s.N::tmS m s.tm::ZcC o s.ob::H)→Calls Tryz.prog f vs w (Ret (ι:=AN) (fun x=> .slice x.1 L.length x.2) fun x=>row E T (.slice x.1 L.length x.2) L::blk k 145 [vp t,vp m,vp o,vi s.mt,vi s.mg,vi s.nx]::Za4 t s.N::tmS m s.tm::ZcC o s.ob::H)):∀w,Sat w (Zds k s::H)→Calls Tryz.prog f vs w (Ret (ι:=AN) (fun x=> .slice x.1 L.length x.2) fun x=>row E T (.slice x.1 L.length x.2) L::Zds k s::H):=fun w hs=>by
 obtain⟨tr,m,o,h1,hs2⟩:=Sat.openKer hs;exact(h tr m o h1 w hs2).mono fun e w' ⟨x,he,hx⟩=>⟨x,he,SatF.swap (Sat.closeKer (H:=row E T (.slice x.1 L.length x.2) L::H) h1 (Sat.perm (List.perm_middle (a:=row E T (.slice x.1 L.length x.2) L) (l₁:=[_,_,_,_]) (l₂:=H)).symm hx))⟩
theorem ZqC (hid:s.nx≤1099511627776):U1 26 #[vp k] (Zds k s::H) (ι:=AN) (fun x=> .slice x.1 (Zaw s.N).length x.2) fun x=>row nE 147 (.slice x.1 (Zaw s.N).length x.2) (Zaw s.N)::Zds k s::H:=
 ZrR H k s fun t m o h=>ZiY H k t m o s fun x hx=>by have:=h.ids x hx;omega
end
theorem Zhq (H:List SP)(k t m o:Nat)(s:KS)(id W:Int):U0 134 #[vp k,vi id,vi W] (blk k 145 [vp t,vp m,vp o,vi s.mt,vi s.mg,vi s.nx]::Za4 t s.N::tmS m s.tm::ZcC o s.ob::H) (Zal (Za9 s id W).1) (blk k 145 [vp t,vp m,vp o,vi (Za9 s id W).2.mt,vi (Za9 s id W).2.mg,vi (Za9 s id W).2.nx]::Za4 t (Za9 s id W).2.N::tmS m (Za9 s id W).2.tm::ZcC o (Za9 s id W).2.ob::H):=by
 refine eG func134 14 ?_;exact Xq<|Xg 1<|Be<|Xq<|Xg 8<|Bl 2 6 [(⟨k,0,none⟩,vp t)] (hasC (ba 0) Zaa)<|Bs 1 (Xa (some 13) _ (Zak 1 rfl (ZnN _ t s.N id W)))<|Be<|Xv (Y0 (Zal (Zaq s.N id W).1) fun w hs=>⟨(),rfl,hs⟩)
theorem Zou (H:List SP)(k:Nat)(s:KS)(id W:Int):U0 134 #[vp k,vi id,vi W] (Zds k s::H) (Zal (Za9 s id W).1) (Zds k (Za9 s id W).2::H):=
 Zhw H k s (fun t m o h=>Zhq H k t m o s id W) (fun h=>ZfU h id W)
def Lens (S A:SP)(C:SP→SP):Prop:=∃R:List SP,(∀(H:List SP) (w:World),Sat w (S::H)→Sat w (A::(R++H)))∧∀(B:SP) (X H:List SP) (w':World),Sat w' (X++B::(R++H))→Sat w' (X++C B::H)
theorem Zam {l :List SP} {A:SP} (i:Nat) (hi:l[i]? =some A):Lens (Zaz l) A (fun B=>Zaz (l.set i B)):=by
  have hil:=(gSs hi).1;refine⟨l.eraseIdx i,fun H w hs=>?_,fun B X H w' h=>?_⟩
  · have:=Sat.pick (l:=l++H) i (by rw[List.getElem?_append_left hil];exact hi) (Sat.openMany hs)
    rwa[List.eraseIdx_append_of_lt_length hil]at this
  · have e1:List.Perm (X++B::(l.eraseIdx i++H)) (l.set i B++(X++H)):=by
      have e2:List.Perm (B::l.eraseIdx i) (l.set i B):=by
        have e4:l.set i B=l.take i++B::l.drop (i+1):=by rw[List.set_eq_take_append_cons_drop,if_pos hil]
        rw[e4,List.eraseIdx_eq_take_drop_succ];exact List.perm_middle.symm
      have e3:List.Perm (X++((B::l.eraseIdx i)++H)) (X++(l.set i B++H)):=(e2.append_right H).append_left X;exact e3.trans (by rw[←List.append_assoc,←List.append_assoc];exact(List.perm_append_comm.append_right H))
    have h2:=Sat.closeMany (l:=l.set i B) (H:=X++H) (Sat.perm e1 h);exact Sat.perm (List.perm_middle (a:=Zaz (l.set i B)) (l₁:=X) (l₂:=H)).symm h2
theorem Lens.comp {S A B:SP}{C D:SP→SP}(h1:Lens S A C)(h2:Lens A B D):Lens S B (fun Z=>C (D Z)):=by
 obtain⟨R,a1,a2⟩:=h1;obtain⟨Q,b1,b2⟩:=h2;refine⟨Q++R,fun H w hs=>by rw[List.append_assoc];exact b1 _ w (a1 H w hs),fun Z X H w' h=>a2 (D Z) X H w' (b2 Z X (R++H) w' (by rw[←List.append_assoc Q R H];exact h))⟩
theorem Sat.right {H:List SP}{w:World}:∀{R:List SP},Sat w (R++H)→Sat w H
 | [],h=>h
 |_::R,h=>Sat.right (R:=R) h.tail
theorem KC.right {H:List SP}{c:ConfV}(h:KC H c)(R:List SP):KC (R++H) c:=h.tails fun _ hs=>Sat.right hs
theorem Lens.callH {S A:SP}{C:SP→SP}(hl:Lens S A C){ι:Type}{P:Program}{f:FuncId}{vs:Array Value}{rv:ι→Value}{X:ι→List SP}{B:ι→SP}{H:List SP}(h:∀(R:List SP) (w:World),Sat w (A::(R++H))→Calls P f vs w (Ret rv fun y=>X y++B y::(R++H))):
  ∀w,Sat w (S::H)→Calls P f vs w (Ret rv fun y=>X y++C (B y)::H):=fun w hs=>by
 obtain⟨R,h1,h2⟩:=hl;exact(h R w (h1 H w hs)).mono fun e w' ⟨y,he,hx⟩=>⟨y,he,h2 (B y) (X y) H w' hx⟩
theorem Lens.call {S A:SP}{C:SP→SP}(hl:Lens S A C){ι:Type}{P:Program}{f:FuncId}{vs:Array Value}{rv:ι→Value}{X:ι→List SP}{B:ι→SP}(h:∀(H:List SP) (w:World),Sat w (A::H)→Calls P f vs w (Ret rv fun y=>X y++B y::H))(H:List SP):
  ∀w,Sat w (S::H)→Calls P f vs w (Ret rv fun y=>X y++C (B y)::H):=hl.callH fun R=>h (R++H)
theorem Lens.here {S A:SP}{C:SP→SP}(hl:Lens S A C){p:World→Prop}(h:∀(H:List SP) (w:World),Sat w (A::H)→p w){H:List SP}(j:Nat)(hj:H[j]? =some S):∀w,Sat w H→p w:=fun w hs=>by
 obtain⟨R,h1,_⟩:=hl;exact h _ w (h1 _ w (Sat.pick j hj hs))
theorem PT.lens {S A:SP}{C:SP→SP}{n:Nat}{L:List (Nat×Value)}{H:List SP}{Φ:Act→World→Prop}(Y:List SP)(hl:Lens S A C)(h:∀R:List SP,(∀(B:SP) (X H:List SP) (w':World),Sat w' (X++B::(R++H))→Sat w' (X++C B::H))→PT n L (Y++A::(R++H)) Φ):PT n L (Y++S::H) Φ:=by
 obtain⟨R,h1,h2⟩:=hl;refine PT.sat (fun w hs=>?_) (h R h2);have e1:=h1 (Y++H) w (Sat.perm (List.perm_middle (a:=S) (l₁:=Y) (l₂:=H)) hs);refine Sat.perm ?_ e1;have e2:List.Perm (R++(Y++H)) (Y++(R++H)):=by rw[←List.append_assoc,←List.append_assoc];exact List.perm_append_comm.append_right H
 exact(e2.cons A).trans List.perm_middle.symm
structure SdP where
 b:Nat
 k:Nat
 r:Nat
 x:Nat
 p:Nat
def scE :Enc (Nat ⊕ Int):=⟨1,by decide,fun| .inl b=> [.pointer (some ⟨b,0,none⟩)] | .inr i=> [.int .i64 i],fun a=>by cases a<;>rfl,by intro a u hu;cases a<;>(simp at hu;subst hu;rfl)⟩
def sdC (p:SdP)(read:List Int):List (Nat ⊕ Int):=[.inl p.k,.inl p.r,.inl p.x,.inl p.p]++read.map .inr
def ZpC (s:SdS):Prop:=s.read.length=6∧(0≤s.left∧s.left≤8)∧(0≤s.all∧s.all≤8)
def sdL (p:SdP)(s:SdS):List SP:=[Zcl (ZpC s),row scE 120 (.slice (some ⟨p.b,0,none⟩) 10 10) (sdC p s.read),Zds p.k s.k,rgS p.r s.r,bxS p.x s.b,puS p.p s.left s.all]
def sdS (p:SdP)(s:SdS):SP:=Zaz (sdL p s)
structure WP where
 l:Nat
 t:Nat
 a:Option Addr
 n:Nat
 s:List SdP
def bpE :Enc Nat:=⟨1,by decide,fun b=> [.pointer (some ⟨b,0,none⟩)],fun _=>rfl,by intro a u hu;simp at hu;subst hu;rfl⟩
def Zh0 (P:List SdP)(s:List SdS):List SP:=List.zipWith sdS P s
def wdL (wb:Nat)(c:ConfV)(P:WP)(w:WS):List SP:=[blk wb 109 [.int .i64 c.frame,.int .i64 c.epoch,.slice c.plans.a c.plans.l.length c.plans.c,.slice c.domains.a c.domains.l.length c.domains.c,.slice P.a P.s.length P.n,.pointer (some ⟨P.l,0,none⟩),.pointer (some ⟨P.t,0,none⟩)],row bpE 110 (.slice P.a P.s.length P.n) (P.s.map (·.b)),ldS P.l w.l,ltS P.t c w.t,Zaz (Zh0 P.s w.s),Zcl (P.s.length=w.s.length∧w.s.length=c.domains.l.length∧w.s.length≤6)]
def wdS (wb:Nat)(c:ConfV)(P:WP)(w:WS):SP:=Zaz (wdL wb c P w)
theorem ZnW {P:List SdP}{s:List SdS}{d:Nat}{p:SdP}(hp:P[d]? =some p)(x:SdS):(Zh0 P s).set d (sdS p x)=Zh0 P (s.set d x):=by
 unfold Zh0;apply List.ext_getElem?;intro i;rw[List.getElem?_set,List.getElem?_zipWith,List.getElem?_zipWith,List.getElem?_set];by_cases c:d=i
 ·subst c
  rw[if_pos rfl,if_pos rfl,hp,List.length_zipWith];have:=(gSs hp).1;by_cases c2:d<s.length
  ·rw[if_pos (by omega),if_pos c2]
  ·rw[if_neg (by omega),if_neg c2]
 ·rw[if_neg c,if_neg c]
theorem ZnX {P:List SdP}{s:List SdS}{d:Nat}{p:SdP}{x:SdS}(hp:P[d]? =some p)(hx:s[d]? =some x):(Zh0 P s)[d]? =some (sdS p x):=by
 unfold Zh0;rw[List.getElem?_zipWith,hp,hx]
section
variable {wb :Nat}{c:ConfV}{P:WP}{w:WS}{d:Nat}{p:SdP}{x:SdS}
theorem Zet (hp:P.s[d]? =some p)(hx:w.s[d]? =some x):Lens (wdS wb c P w) (sdS p x) (fun B=>Zaz ((wdL wb c P w).set 4 (Zaz ((Zh0 P.s w.s).set d B)))):=
 (Zam (l:=wdL wb c P w) 4 rfl).comp (Zam d (ZnX hp hx))
theorem ZcD (hp:P.s[d]? =some p)(y:SdS):Zaz ((wdL wb c P w).set 4 (Zaz ((Zh0 P.s w.s).set d (sdS p y))))=wdS wb c P (wUp w d y):=by
 rw[ZnW hp y];show Zaz _=Zaz _;congr 1;simp only[wdL,wUp,List.length_set,List.set_cons_succ,List.set_cons_zero]
theorem ZnF {ι:Type}{Q:Program}{f:FuncId}{vs:Array Value}{rv:ι→Value}{X:ι→List SP}{k':ι→KS}(hp:P.s[d]? =some p)(hx:w.s[d]? =some x)(h:∀(H:List SP) (v:World),Sat v (Zds p.k x.k::H)→Calls Q f vs v (Ret rv fun y=>X y++Zds p.k (k' y)::H))(H:List SP):
  ∀v,Sat v (wdS wb c P w::H)→Calls Q f vs v (Ret rv fun y=>X y++wdS wb c P (wUp w d {x with k:=k' y})::H):=fun v hs=>
 (((Zet hp hx).comp (Zam (l:=sdL p x) 2 rfl)).call h H v hs).mono fun e v' ⟨y,he,hv⟩=>⟨y,he,by show Sat v' (X y++wdS wb c P (wUp w d _)::H);rw[←ZcD hp];exact hv⟩
theorem Zlx {ι:Type}{Q:Program}{f:FuncId}{vs:Array Value}{rv:ι→Value}{X:ι→List SP}{k':ι→RgS}(hp:P.s[d]? =some p)(hx:w.s[d]? =some x)(h:∀(H:List SP) (v:World),Sat v (rgS p.r x.r::H)→Calls Q f vs v (Ret rv fun y=>X y++rgS p.r (k' y)::H))(H:List SP):
  ∀v,Sat v (wdS wb c P w::H)→Calls Q f vs v (Ret rv fun y=>X y++wdS wb c P (wUp w d {x with r:=k' y})::H):=fun v hs=>
 (((Zet hp hx).comp (Zam (l:=sdL p x) 3 rfl)).call h H v hs).mono fun e v' ⟨y,he,hv⟩=>⟨y,he,by show Sat v' (X y++wdS wb c P (wUp w d _)::H);rw[←ZcD hp];exact hv⟩
theorem Zrb {ι:Type}{Q:Program}{f:FuncId}{vs:Array Value}{rv:ι→Value}{X:ι→List SP}{k':ι→BxS}(hp:P.s[d]? =some p)(hx:w.s[d]? =some x)(h:∀(H:List SP) (v:World),Sat v (bxS p.x x.b::H)→Calls Q f vs v (Ret rv fun y=>X y++bxS p.x (k' y)::H))(H:List SP):
  ∀v,Sat v (wdS wb c P w::H)→Calls Q f vs v (Ret rv fun y=>X y++wdS wb c P (wUp w d {x with b:=k' y})::H):=fun v hs=>
 (((Zet hp hx).comp (Zam (l:=sdL p x) 4 rfl)).call h H v hs).mono fun e v' ⟨y,he,hv⟩=>⟨y,he,by show Sat v' (X y++wdS wb c P (wUp w d _)::H);rw[←ZcD hp];exact hv⟩
theorem Zly {ι:Type}{Q:Program}{f:FuncId}{vs:Array Value}{rv:ι→Value}{l' a':ι→Int}(hp:P.s[d]? =some p)(hx:w.s[d]? =some x)(hok:∀y,ZpC x→ZpC {x with left:=l' y,all:=a' y})(h:∀(H:List SP) (v:World),Sat v (puS p.p x.left x.all::H)→Calls Q f vs v (Ret rv fun y=>puS p.p (l' y) (a' y)::H))(H:List SP):
  ∀v,Sat v (wdS wb c P w::H)→Calls Q f vs v (Ret rv fun y=>wdS wb c P (wUp w d {x with left:=l' y,all:=a' y})::H):=fun v hs=>by
 have hs0:ZpC x:=((Zet hp hx).comp (Zam (l:=sdL p x) 0 rfl)).here (fun H v hs=>(Sat.openPure hs).1) (H:=wdS wb c P w::H) 0 rfl v hs;refine(((Zet hp hx).comp (Zam (l:=sdL p x) 5 rfl)).call (X:=fun _=> []) h H v hs).mono fun e v' ⟨y,he,hv⟩=>⟨y,he,?_⟩
 show Sat v' (wdS wb c P (wUp w d _)::H);rw[←ZcD hp];have e1:Zaz ((sdL p x).set 5 (puS p.p (l' y) (a' y)))=sdS p {x with left:=l' y,all:=a' y}:=by
  show Zaz _=Zaz _;congr 1;simp only[sdL,List.set_cons_succ,List.set_cons_zero,Zcl,hs0,hok y hs0]
 rw[←e1];exact hv
theorem Zlz {ι:Type}{Q:Program}{f:FuncId}{vs:Array Value}{rv:ι→Value}{l':ι→List Acc}(h:∀(H:List SP) (v:World),Sat v (ldS P.l w.l::H)→Calls Q f vs v (Ret rv fun y=>ldS P.l (l' y)::H))(H:List SP):
  ∀v,Sat v (wdS wb c P w::H)→Calls Q f vs v (Ret rv fun y=>wdS wb c P {w with l:=l' y}::H):=fun v hs=>
 ((Zam (l:=wdL wb c P w) 2 rfl).call (X:=fun _=> []) h H v hs).mono fun e v' ⟨y,he,hv⟩=>⟨y,he,hv⟩
theorem ZlA {ι:Type}{Q:Program}{f:FuncId}{vs:Array Value}{rv:ι→Value}{X:ι→List SP}{t':ι→LtS}{H:List SP}(h:∀(R:List SP) (v:World),Sat v (ltS P.t c w.t::(R++H))→Calls Q f vs v (Ret rv fun y=>X y++ltS P.t c (t' y)::(R++H))):
  ∀v,Sat v (wdS wb c P w::H)→Calls Q f vs v (Ret rv fun y=>X y++wdS wb c P {w with t:=t' y}::H):=fun v hs=>
 ((Zam (l:=wdL wb c P w) 3 rfl).callH h v hs).mono fun e v' ⟨y,he,hv⟩=>⟨y,he,hv⟩
theorem ZdM (j:Nat){H:List SP}(hj:H[j]? =some (wdS wb c P w)):∀v,Sat v H→P.s.length=w.s.length∧w.s.length=c.domains.l.length∧w.s.length≤6:=
 (Zam (l:=wdL wb c P w) 5 rfl).here (fun H v hs=>(Sat.openPure hs).1) j hj
theorem Zat (j:Nat){H:List SP}{i:Nat}{u:Value}(hj:H[j]? =some (wdS wb c P w))(hu: [Value.int .i64 c.frame,.int .i64 c.epoch,.slice c.plans.a c.plans.l.length c.plans.c,.slice c.domains.a c.domains.l.length c.domains.c,.slice P.a P.s.length P.n,.pointer (some ⟨P.l,0,none⟩),.pointer (some ⟨P.t,0,none⟩)][i]? =some u):∀v,Sat v H→v.cell? ⟨wb,i,none⟩=some u:=
 (Zam (l:=wdL wb c P w) 0 rfl).here (fun H v hs=>ZaS (H:=_::H) 0 rfl (j:=i) hu v hs) j hj
theorem Zo3 (j:Nat){H:List SP}(hj:H[j]? =some (wdS wb c P w)):KR H bpE ⟨P.a,P.n,P.s.map (·.b)⟩:=fun v hs=>by
 refine(Zam (l:=wdL wb c P w) 1 rfl).here (p:=fun v=>Rd bpE v (SV.v ⟨P.a,P.n,P.s.map (·.b)⟩) (P.s.map (·.b))) (fun H v hs=>?_) j hj v hs;exact ZeZ (H:=_::H) (A:=P.a) (m:=P.s.length) (k:=P.n) (xs:=P.s.map (·.b)) 0 rfl (by simp) v hs
theorem Zcf (j:Nat){H:List SP}(hp:P.s[d]? =some p)(hx:w.s[d]? =some x){i:Nat}{z:Nat ⊕ Int}{u:Value}(hj:H[j]? =some (wdS wb c P w))(hz:(sdC p x.read)[i]? =some z)(hu:(scE.enc z)[0]? =some u):∀v,Sat v H→v.cell? ⟨p.b,0+i*1,none⟩=some u:=
  ((Zet hp hx).comp (Zam (l:=sdL p x) 1 rfl)).here (fun H v hs=>by
    have hv:=Zac (H:=row scE 120 (.slice (some ⟨p.b,0,none⟩) 10 10) (sdC p x.read)::H) (E:=scE) 0 rfl (J:=i) (j:=0) hz hu v hs;exact hv) j hj
theorem Zra (j:Nat){H:List SP}(hp:P.s[d]? =some p)(hx:w.s[d]? =some x)(hj:H[j]? =some (wdS wb c P w)):∀v,Sat v H→ZpC x:=
 ((Zet hp hx).comp (Zam (l:=sdL p x) 0 rfl)).here (fun H v hs=>(Sat.openPure hs).1) j hj
theorem Zb8 (j:Nat){H:List SP}{sb so:Nat}(hA:P.a=some ⟨sb,so,none⟩)(hj:H[j]? =some (wdS wb c P w)):∀v,Sat v H→v.cell? ⟨wb,4,none⟩=some (.slice (some ⟨sb,so,none⟩) P.s.length P.n):=by
 have:=Zat j (i:=4) hj rfl
 rwa[hA]at this
theorem wd_ptr (j:Nat){H:List SP}{sb so:Nat}(hA:P.a=some ⟨sb,so,none⟩)(hp:P.s[d]? =some p)(hj:H[j]? =some (wdS wb c P w)):∀v,Sat v H→v.cell? ⟨sb,so+d*1,none⟩=some (.pointer (some ⟨p.b,0,none⟩)):=fun v hs=>by
 have:=(Zo3 j hj).cell hA (i:=d) (j:=0) (x:=p.b) (by rw[List.getElem?_map,hp];rfl) rfl v hs;exact this
theorem Zeb (j:Nat){H:List SP}(hp:P.s[d]? =some p)(hj:H[j]? =some (wdS wb c P w)):∀v,Sat v H→∃sb so,P.a=some ⟨sb,so,none⟩:=fun v hs=>
 (Zo3 j hj).isSome (by intro h0;have:=(gSs hp).1;have h1:=congrArg List.length h0;simp at h1;rw[h1]at this;simp at this) v hs
theorem Zjl (j:Nat){H:List SP}(hj:H[j]? =some (wdS wb c P w)){d:Nat}(hd:d<c.domains.l.length):∀v,Sat v H→∃p x,P.s[d]? =some p∧w.s[d]? =some x:=fun v hs=>by
 obtain⟨h1,h2,_⟩:=ZdM j hj v hs;exact⟨_,_,gEe (by omega),gEe (by omega)⟩
end
def Zkc (wb:Nat)(c:ConfV)(P:WP):SP:=exS fun z:WS=>wdS wb c P z
section
variable {wb :Nat}{c:ConfV}{P:WP}{d:Nat}{p:SdP}
theorem ZpA {A:SP}{H:List SP}{v:World}{z:WS}(h:Sat v (A::wdS wb c P z::H)):Sat v (A::Zkc wb c P::H):=SatF.swap (Sat.closeEx z (SatF.swap h))
theorem Zic {H:List SP}(j:Nat)(hj:H[j]? =some (Zkc wb c P)){p:World→Prop}(h:∀(z:WS) (H:List SP) (v:World),Sat v (wdS wb c P z::H)→p v):∀v,Sat v H→p v:=fun v hs=>by
 obtain⟨z,h1⟩:=Sat.openEx (Sat.pick j hj hs);exact h z _ v h1
theorem ZnG (j:Nat){H:List SP}{sb so:Nat}(hA:P.a=some ⟨sb,so,none⟩)(hj:H[j]? =some (Zkc wb c P)):∀v,Sat v H→v.cell? ⟨wb,4,none⟩=some (.slice (some ⟨sb,so,none⟩) P.s.length P.n):=
 Zic j hj fun z _ v hs=>Zb8 0 hA rfl v hs
theorem Zrd (j:Nat){H:List SP}{sb so:Nat}(hA:P.a=some ⟨sb,so,none⟩)(hp:P.s[d]? =some p)(hj:H[j]? =some (Zkc wb c P)):∀v,Sat v H→v.cell? ⟨sb,so+d*1,none⟩=some (.pointer (some ⟨p.b,0,none⟩)):=
 Zic j hj fun z _ v hs=>wd_ptr 0 hA hp rfl v hs
theorem ZpI (j:Nat){H:List SP}(hp:P.s[d]? =some p){i b:Nat}(hj:H[j]? =some (Zkc wb c P))(hz: [p.k,p.r,p.x,p.p][i]? =some b):∀v,Sat v H→v.cell? ⟨p.b,i,none⟩=some (.pointer (some ⟨b,0,none⟩)):=
  Zic j hj fun z _ v hs=>by
    obtain⟨h1,_⟩:=ZdM 0 rfl v hs;have hd:=(gSs hp).1;have hx:z.s[d]? =some z.s[d]:=gEe (by omega);have hi:i<4:=(gSs hz).1;have h2:=Zcf 0 hp hx (i:=i) (z:= .inl b) (u:= .pointer (some ⟨b,0,none⟩)) rfl (by
      unfold sdC;rw[List.getElem?_append_left (by simpa using hi)];have:([p.k,p.r,p.x,p.p].map (Sum.inl:Nat→Nat ⊕ Int))[i]? =some (.inl b):=by rw[List.getElem?_map,hz];rfl
      exact this) rfl v hs
    rwa[show 0+i*1=i by omega]at h2
end
theorem Zea (H:List SP)(wb:Nat)(c:ConfV)(P:WP)(z:WS)(d:Nat)(p:SdP)(x:SdS)(hp:P.s[d]? =some p)(hx:z.s[d]? =some x)(hl:P.s.length≤1000):US 47 #[vp wb,vi d] (wdS wb c P z::H) (.pointer (some ⟨p.b,0,none⟩)):=by
 have hdl:=(gSs hp).1;refine eG func47 23 ?_;refine PT.know (Zeb 0 hp rfl) ?_;rintro⟨sb,so,hA⟩;refine Xq (Xg 1 (Ae 1 ?_));refine Xq (Xq (Xg 11 (Xr [(0,vp wb),(1,vi d),(4,.pointer none),(7,.bool (decide ((d:Int)<0)))] ?_ 8 3)));refine(Xs0 0 8 [(0,vp wb),(1,vi d),(4,.pointer none),(15,.bool ((decide ((d:Int)<0))||(decide ((d:Int)≥(P.s.length:Int)))))] ?_ ?_:RT _ _ _ _ _ _ 8 _)
 ·cases hg3:(decide ((d:Int)<0))with
  |true=>
   refine Ae 8 ?_;refine Xp [(0,vp wb),(1,vi d),(4,.pointer none),(15,.bool (true||(decide ((d:Int)≥(P.s.length:Int)))))] ?_;exact Zcm () rfl rfl
  |false=>
   refine Xm [(0,vp wb),(1,vi d),(4,.pointer none),(15,.bool (decide ((d:Int)≥(P.s.length:Int))))] [(⟨wb,4,none⟩,.slice (some ⟨sb,so,none⟩) P.s.length P.n)] (hasC (Zb8 0 hA rfl) Zaa) ?_ 8;refine Xp [(0,vp wb),(1,vi d),(4,.pointer none),(15,.bool (false||(decide ((d:Int)≥(P.s.length:Int)))))] ?_;exact Zcm () rfl rfl
 refine endR ?_;rw[show((decide ((d:Int)<0))||(decide ((d:Int)≥(P.s.length:Int))))=false from by simp;omega];refine Xc false (fun h=>by cases h) (fun _=>?_);refine Xk (Xq (Xg 8 (Al [(⟨wb,4,none⟩,.slice (some ⟨sb,so,none⟩) P.s.length P.n)] (hasC (Zb8 0 hA rfl) Zaa) ?_ 3 5)));refine Xs (Zav (Xi 107 (.tmp 19) (.tmp 20) sb so P.s.length P.n d 1 110 (d:Int) 21 underlying107)) (fun _=>?_) 2;refine Am 2 [(⟨sb,so+d*1,none⟩,.pointer (some ⟨p.b,0,none⟩))] (hasC (wd_ptr 0 hA hp rfl) Zaa) ?_;refine Xv (Y0 (.pointer (some ⟨p.b,0,none⟩)) (fun w hs=>?_));exact⟨(),rfl,hs⟩
theorem ZgI (H:List SP)(wb:Nat)(c:ConfV)(P:WP)(z:WS)(d:Nat)(p:SdP)(x:SdS)(hp:P.s[d]? =some p)(hx:z.s[d]? =some x)(hl:P.s.length≤1000):US 25 #[vp wb,vi d] (wdS wb c P z::H) (.pointer (some ⟨p.k,0,none⟩)):=by
 refine eG func25 15 ?_;refine Xq (Xg 1 (Ae 1 ?_));refine Xq (Xg 4 (Ar ?_ 2 2));refine Xs (Xa1 (some 8) (fun _=> .pointer (some ⟨p.b,0,none⟩)) (fun _=>(wdS wb c P z::H)) (Zea _ wb c P z d p x hp hx hl)) (fun _=>?_) 1;refine Ae 1 ?_;refine Xq (Xq (Xg 2 (Ae 2 ?_)));refine Xc false (fun h=>by cases h) (fun _=>?_);refine Xk (Xq (Xg 5 (Am 5 [(⟨p.b,0,none⟩,.pointer (some ⟨p.k,0,none⟩))] (hasC (Zcf 0 hp hx (i:=0) rfl rfl rfl) Zaa) ?_)));refine Xv (Y0 (.pointer (some ⟨p.k,0,none⟩)) (fun w hs=>?_));exact⟨(),rfl,hs⟩
theorem Zf8 (H:List SP)(wb:Nat)(c:ConfV)(P:WP)(z:WS)(d:Nat)(p:SdP)(x:SdS)(hp:P.s[d]? =some p)(hx:z.s[d]? =some x)(hl:P.s.length≤1000):U1 15 #[vp wb,vi d] (wdS wb c P z::H) (ι:=AN) (fun q=> .slice q.1 x.r.l.length q.2) fun q=>row reE 48 (.slice q.1 x.r.l.length q.2) x.r.l::wdS wb c P z::H:=by
 have hwx:wUp z d {x with r:=x.r}=z:=by
  have:=(gSs hx)
  obtain⟨h1,h2⟩:=this;show WS.mk (z.s.set d x) z.l z.t=z;rw[←h2,List.set_getElem_self]
 have hc:=fun H=>Zlx (wb:=wb) (c:=c) (X:=fun q:AN=> [row reE 48 (.slice q.1 x.r.l.length q.2) x.r.l]) (k':=fun _=>x.r) hp hx (fun H=>Zqc H p.r x.r) H
 simp only[hwx,List.cons_append,List.nil_append]at hc;refine eG func15 16 ?_;refine Xq (Xg 1 (Ae 1 ?_));refine Xq (Xg 4 (Ar ?_ 2 2));refine Xs (Xa1 (some 8) (fun _=> .pointer (some ⟨p.b,0,none⟩)) (fun _=>(wdS wb c P z::H)) (Zea _ wb c P z d p x hp hx hl)) (fun _=>?_) 1;refine Ae 1 ?_;refine Xq (Xq (Xg 2 (Ae 2 ?_)));refine Xc false (fun h=>by cases h) (fun _=>?_);refine Xk (Xq (Xg 6 (Al [(⟨p.b,1,none⟩,.pointer (some ⟨p.r,0,none⟩))] (hasC (Zcf 0 hp hx (i:=1) rfl rfl rfl) Zaa) ?_ 2 4)));refine Xs (Xa (some 15) (fun(q:AN)=> .slice q.1 x.r.l.length q.2) (hc _)) (fun(q:AN)=>?_) 1;refine Ae 1 ?_;refine Xv (Y0 (.slice q.1 x.r.l.length q.2) (fun w hs=>?_));exact⟨q,rfl,hs⟩
theorem Zc5 (H:List SP)(wb:Nat)(c:ConfV)(P:WP)(z:WS):US 18 #[vp wb] (wdS wb c P z::H) (vp P.l):=by
 refine eG func18 7 ?_;exact Xq<|Xg 1<|Be<|Xq<|Xg 5<|Bm [(⟨wb,5,none⟩,vp P.l)] (hasC (Zat 0 (i:=5) rfl rfl) Zaa)<|Xv (Y0 (vp P.l) fun w hs=>⟨(),rfl,hs⟩)
theorem ZdA (H:List SP)(wb:Nat)(c:ConfV)(P:WP)(z:WS):US 21 #[vp wb] (wdS wb c P z::H) (vp P.t):=by
 refine eG func21 7 ?_;exact Xq<|Xg 1<|Be<|Xq<|Xg 5<|Bm [(⟨wb,6,none⟩,vp P.t)] (hasC (Zat 0 (i:=6) rfl rfl) Zaa)<|Xv (Y0 (vp P.t) fun w hs=>⟨(),rfl,hs⟩)
theorem Zj5 (H:List SP)(wb:Nat)(c:ConfV)(P:WP)(z:WS)(hk:KC H c)(d a:Int):US 82 #[vp wb,vi d,vi a] (wdS wb c P z::H) (.tuple #[.agg #[vi 0,vi (Zc2 c z d a).1.1,vi (Zc2 c z d a).1.2],Zal (Zc2 c z d a).2]):=by
 have hcl:=fun H=>Zlz (wb:=wb) (c:=c) (l':=fun _=>z.l) (fun H=>Zhp H P.l z.l a) H
 have hac:=fun H=>Zlz (wb:=wb) (c:=c) (l':=fun _=>z.l) (fun H=>ZmK H P.l z.l a) H
 refine eG func82 34 ?_;by_cases hf:Zah c a d=0
 ·have he:Zc2 c z d a=((ZgN z a,(ZaF z.l a).idle),0):=by rw[Zc2,if_pos hf]
  refine Xq<|Xg 2<|Bx 1 (Xn 31 [vi 0,vi 0,vi 0] (some 6) (fun b=>vp b)) fun b1=>Be<|Xq<|Xq<|Xg 8<|Bl 2 6 [(⟨wb,0,none⟩,vi c.frame),(⟨wb,1,none⟩,vi c.epoch),(⟨wb,2,none⟩,.slice c.plans.a c.plans.l.length c.plans.c),(⟨wb,3,none⟩,.slice c.domains.a c.domains.l.length c.domains.c)] (hasC (up (Zat 0 (i:=0) rfl rfl)) (hasC (up (Zat 0 (i:=1) rfl rfl)) (hasC (up (Zat 0 (i:=2) rfl rfl)) (hasC (up (Zat 0 (i:=3) rfl rfl)) Zaa))))<|Bs 1 (Xa (some 15) _ (ZhQ hk.up.up hf))<|Be<|Xq<|Xg 2<|Be<|cF<|Xk<|Xq<|Xy0 0 [14,15] 16<|At' [0,1,2,3,4,6,7,8,9,10] [(⟨wb,5,none⟩,vp P.l),(⟨wb,5,none⟩,vp P.l)] (hasC (Zat 1 (i:=5) rfl rfl) (hasC (Zat 1 (i:=5) rfl rfl) Zaa))<|Yo 5 (Xa (some 25) _ (Zak 1 rfl (hcl _)))<|Yo 11 (Xa (some 31) _ (Zak 1 rfl (hac _)))<|At' [12,13] [] Zaa<|Yo 14 (Xz [(0,vi 0),(1,vi ((ZaF z.l a).own+(ZaF z.l a).got)),(2,vi ((ZaF z.l a).idle))])<|Yo 15 (Zsh (.nilIface) (some 7) (fun _=>Kr))<|Xd<|Xv<|dB 0 (.tuple #[.agg #[.int .i64 0,.int .i64 ((ZaF z.l a).own+(ZaF z.l a).got),.int .i64 ((ZaF z.l a).idle)],.nilIface]) (fun w hs=>?_)
  exact⟨(),by rw[he];rfl,hs.tail⟩
 ·have he:Zc2 c z d a=((0,0),Zah c a d):=by rw[Zc2,if_neg hf]
  refine Xq<|Xg 2<|Bx 1 (Xn 31 [vi 0,vi 0,vi 0] (some 6) (fun b=>vp b)) fun b1=>Be<|Xq<|Xq<|Xg 8<|Bl 2 6 [(⟨wb,0,none⟩,vi c.frame),(⟨wb,1,none⟩,vi c.epoch),(⟨wb,2,none⟩,.slice c.plans.a c.plans.l.length c.plans.c),(⟨wb,3,none⟩,.slice c.domains.a c.domains.l.length c.domains.c)] (hasC (up (Zat 0 (i:=0) rfl rfl)) (hasC (up (Zat 0 (i:=1) rfl rfl)) (hasC (up (Zat 0 (i:=2) rfl rfl)) (hasC (up (Zat 0 (i:=3) rfl rfl)) Zaa))))<|Bs 1 (Xa (some 15) _ (ZhR hk.up.up hf))<|Be<|Xq<|Xg 2<|Be<|cT<|Xq<|Xg 4<|Br 2 2<|Bs 1 (Xz [(0,vi 0),(1,vi 0),(2,vi 0)])<|Be<|Xv<|Zab<|dB 0 (.tuple #[.agg #[.int .i64 0,.int .i64 0,.int .i64 0],.iface 126 (.int .i64 (Zah c a d))]) (fun w hs=>?_)
  exact⟨(),by rw[he];simp only[Zal,if_neg hf],hs.tail⟩
theorem Zb9 {z:WS}{d:Nat}{x:SdS}(hx:z.s[d]? =some x):wUp z d x=z:=by
 obtain⟨h1,h2⟩:=gSs hx;show WS.mk (z.s.set d x) z.l z.t=z;rw[←h2,List.set_getElem_self]
theorem Zbj {z:WS}{d:Nat}{x:SdS}(hx:z.s[d]? =some x):ZbJ z d=x:=by rw[ZbJ,List.getD_eq_getElem?_getD,hx];rfl
theorem Zj7 (H:List SP)(wb:Nat)(c:ConfV)(P:WP)(z:WS)(d:Nat)(p:SdP)(x:SdS)(hp:P.s[d]? =some p)(hx:z.s[d]? =some x)(hl:P.s.length≤1000):U0 85 #[vp wb,vi d] (wdS wb c P z::H) (.tuple #[.agg #[vi 0,vi (Zca z d).1.1.1,vi (Zca z d).1.1.2],Zal (Zca z d).1.2]) (wdS wb c P (Zca z d).2::H):=by
 have hdl:=(gSs hp).1;have hsd:=Zbj hx;have hc:=fun H=>Zrb (wb:=wb) (c:=c) (X:=fun _:Unit=> []) (k':=fun _=>ZbS x.b) hp hx (fun H=>ZoO H p.x x.b) H
 simp only[List.nil_append]at hc;refine eG func85 31 ?_;refine PT.know (Zeb 0 hp rfl) ?_;rintro⟨sb,so,hA⟩;refine Xq<|Xg 2<|Bx 1 (Xn 31 [vi 0,vi 0,vi 0] (some 4) (fun b=>vp b)) fun b1=>Be<|Xq<|Xg 17<|Bl 12 5 [(⟨wb,4,none⟩,.slice (sA sb so) P.s.length P.n)] (hasC (up (Zb8 0 hA rfl)) Zaa)<|Bs 11 (Zav (Xi 107 (.tmp 12) (.tmp 13) sb so P.s.length P.n d 1 110 (d:Int) 14 underlying107))<|Bl 7 4 [(⟨sb,so+d*1,none⟩,vp p.b),(⟨p.b,2,none⟩,vp p.x)] (hasC (up (wd_ptr 0 hA hp rfl)) (hasC (up (Zcf 0 hp hx (i:=2) rfl rfl rfl)) Zaa))<|Bs 6 (Xa (some 19) _ (Zak 1 rfl (hc _)))<|Br 3 3<|Bx 2 (Xn 254 [vi 0,vi 0] (some 6) (fun b=>vp b)) fun b2=>Bs 1 (Xz [(0,vi ((Zbo x.b).1.1)),(1,vi ((Zbo x.b).1.2))])<|Be<|Xq (Xq (Xg 2 (Ce [(6,vp b2),(4,vp b1),(5,.nilIface),(23,.bool (!((Zbo x.b).2)))] ?_)))
 cases h1:((Zbo x.b).2)with
 |true=>
  have he:Zca z d=(((Zbo x.b).1,0),wUp z d {x with b:=ZbS x.b}):=by rw[Zca,hsd,if_pos h1]
  refine cF<|Xk<|Xq<|Xg 7<|Bl 2 5 [(⟨b2,0,none⟩,vi ((Zbo x.b).1.1)),(⟨b2,1,none⟩,vi ((Zbo x.b).1.2))] (hasC (ba 0) (hasC (ba 0) Zaa))<|Xh0 ?_ 1 2;refine Bs 1 (Xz [(0,vi 0),(1,vi ((Zbo x.b).1.1)),(2,vi ((Zbo x.b).1.2))])<|Be<|Xv<|dB 0 (.tuple #[.agg #[.int .i64 0,.int .i64 ((Zbo x.b).1.1),.int .i64 ((Zbo x.b).1.2)],.nilIface]) (fun w hs=>?_);exact⟨(),by rw[he];rfl,by rw[he];exact hs.tail.tail⟩
 |false=>
  have he:Zca z d=(((0,0),13),z):=by rw[Zca,hsd,if_neg (by rw[h1];simp)]
  have hnil:x.b.l=[]:=by unfold Zbo at h1;split at h1<;>simp_all
  have hbt:ZbS x.b=x.b:=by unfold ZbS;rw[hnil];cases hb:x.b;rw[hb]at hnil;simp only at hnil;rw[hnil];rfl
  refine cT<|Xq<|Xg 4<|Br 2 2<|Xh0 ?_ 1 2;refine Bs 1 (Xz [(0,vi 0),(1,vi 0),(2,vi 0)])<|Be<|Xv<|Zab<|dB 0 (.tuple #[.agg #[.int .i64 0,.int .i64 0,.int .i64 0],.iface 126 (.int .i64 13)]) (fun w hs=>?_);exact⟨(),by rw[he];rfl,by rw[he];rw[hbt,show({x with b:=x.b}:SdS)=x from rfl,Zb9 hx]at hs;exact hs.tail.tail⟩
theorem Zh6 (H:List SP)(wb:Nat)(c:ConfV)(P:WP)(z:WS)(hk:KC H c)(d:Nat)(v:Int):U0 86 #[vp wb,vi d,vi v] (wdS wb c P z::H) (Zal (ZbH c z d v).1) (wdS wb c P (ZbH c z d v).2::H):=by
 have hc:=ZlA (wb:=wb) (c:=c) (P:=P) (w:=z) (H:=H) (X:=fun _:Unit=> []) (t':=fun _=>(ZaI c z.t d v).2) (fun R=>Zop (R++H) P.t c z.t d v (hk.right R));simp only[List.nil_append]at hc;refine eG func86 25 ?_;by_cases hf:ZaM c d v=0
 ·have he:ZbH c z d v=((ZaI c z.t d v).1,{z with t:=(ZaI c z.t d v).2}):=by rw[ZbH,if_pos hf]
  exact Xq<|Xg 1<|Be<|Xq<|Xq<|Xg 8<|Bl 2 6 [(⟨wb,0,none⟩,vi c.frame),(⟨wb,1,none⟩,vi c.epoch),(⟨wb,2,none⟩,.slice c.plans.a c.plans.l.length c.plans.c),(⟨wb,3,none⟩,.slice c.domains.a c.domains.l.length c.domains.c)] (hasC (Zat 0 (i:=0) rfl rfl) (hasC (Zat 0 (i:=1) rfl rfl) (hasC (Zat 0 (i:=2) rfl rfl) (hasC (Zat 0 (i:=3) rfl rfl) Zaa))))<|Bs 1 (Xa (some 14) _ (Zlc hk.up hf))<|Be<|Xq<|Xg 2<|Be<|cF<|Xk<|Xq<|Xg 8<|Bl 2 6 [(⟨wb,6,none⟩,vp P.t)] (hasC (Zat 0 (i:=6) rfl rfl) Zaa)<|Bs 1 (Xa (some 24) _ (hc))<|Be<|Xv (Y0 (Zal (ZaI c z.t d v).1) fun w hs=>⟨(),by rw[he],by rw[he];exact hs⟩)
 ·have he:ZbH c z d v=(ZaM c d v,z):=by rw[ZbH,if_neg hf]
  exact Xq<|Xg 1<|Be<|Xq<|Xq<|Xg 8<|Bl 2 6 [(⟨wb,0,none⟩,vi c.frame),(⟨wb,1,none⟩,vi c.epoch),(⟨wb,2,none⟩,.slice c.plans.a c.plans.l.length c.plans.c),(⟨wb,3,none⟩,.slice c.domains.a c.domains.l.length c.domains.c)] (hasC (Zat 0 (i:=0) rfl rfl) (hasC (Zat 0 (i:=1) rfl rfl) (hasC (Zat 0 (i:=2) rfl rfl) (hasC (Zat 0 (i:=3) rfl rfl) Zaa))))<|Bs 1 (Xa (some 14) _ (Zld hk.up hf))<|Be<|Xq<|Xg 2<|Be<|cT<|Xq<|Xg 2<|Be<|Xv (Zab (Y0 (.iface 126 (vi (ZaM c d v))) fun w hs=>⟨(),by rw[he];simp only[Zal,if_neg hf],by rw[he];exact hs⟩))
theorem Zj8 (H:List SP)(wb:Nat)(c:ConfV)(P:WP)(z:WS)(hk:KC H c)(hcl:c.domains.l.length≤1000)(d:Nat)(i:Int):U0 87 #[vp wb,vi d,vi i] (wdS wb c P z::H) (Zal (ZcF c z d i).1) (wdS wb c P (ZcF c z d i).2::H):=by
 have hc:=ZlA (wb:=wb) (c:=c) (P:=P) (w:=z) (H:=H) (X:=fun _:Unit=> []) (t':=fun _=>(ZaW z.t c.plans.l.length i).2) (fun R=>Zoo (R++H) P.t c z.t i);simp only[List.nil_append]at hc;refine eG func87 24 ?_;by_cases hf:Zbb c d i=0
 ·have he:ZcF c z d i=((ZaW z.t c.plans.l.length i).1,{z with t:=(ZaW z.t c.plans.l.length i).2}):=by rw[ZcF,if_pos hf]
  exact Xq<|Xg 1<|Be<|Xq<|Xq<|Xg 8<|Bl 2 6 [(⟨wb,0,none⟩,vi c.frame),(⟨wb,1,none⟩,vi c.epoch),(⟨wb,2,none⟩,.slice c.plans.a c.plans.l.length c.plans.c),(⟨wb,3,none⟩,.slice c.domains.a c.domains.l.length c.domains.c)] (hasC (Zat 0 (i:=0) rfl rfl) (hasC (Zat 0 (i:=1) rfl rfl) (hasC (Zat 0 (i:=2) rfl rfl) (hasC (Zat 0 (i:=3) rfl rfl) Zaa))))<|Bs 1 (Xa (some 14) _ (Znn hk.up hcl hf))<|Be<|Xq<|Xg 2<|Be<|cF<|Xk<|Xq<|Xg 7<|Bl 2 5 [(⟨wb,6,none⟩,vp P.t)] (hasC (Zat 0 (i:=6) rfl rfl) Zaa)<|Bs 1 (Xa (some 23) _ (hc))<|Be<|Xv (Y0 (Zal (ZaW z.t c.plans.l.length i).1) fun w hs=>⟨(),by rw[he],by rw[he];exact hs⟩)
 ·have he:ZcF c z d i=(Zbb c d i,z):=by rw[ZcF,if_neg hf]
  exact Xq<|Xg 1<|Be<|Xq<|Xq<|Xg 8<|Bl 2 6 [(⟨wb,0,none⟩,vi c.frame),(⟨wb,1,none⟩,vi c.epoch),(⟨wb,2,none⟩,.slice c.plans.a c.plans.l.length c.plans.c),(⟨wb,3,none⟩,.slice c.domains.a c.domains.l.length c.domains.c)] (hasC (Zat 0 (i:=0) rfl rfl) (hasC (Zat 0 (i:=1) rfl rfl) (hasC (Zat 0 (i:=2) rfl rfl) (hasC (Zat 0 (i:=3) rfl rfl) Zaa))))<|Bs 1 (Xa (some 14) _ (Zno hk.up hcl hf))<|Be<|Xq<|Xg 2<|Be<|cT<|Xq<|Xg 2<|Be<|Xv (Zab (Y0 (.iface 126 (vi (Zbb c d i))) fun w hs=>⟨(),by rw[he];simp only[Zal,if_neg hf],by rw[he];exact hs⟩))
theorem ZpG {wb:Nat}{c:ConfV}{P:WP}{w:WS}{d:Nat}{p:SdP}{x:SdS}(j:Nat){H:List SP}(hp:P.s[d]? =some p)(hx:w.s[d]? =some x){i:Nat}{r:Int}(hr:x.read[i]? =some r)(hj:H[j]? =some (wdS wb c P w)):∀v,Sat v H→v.cell? ⟨p.b,4+i*1,none⟩=some (.int .i64 r):=by
 have h:=Zcf j hp hx (i:=4+i) (z:= .inr r) hj (by unfold sdC;rw[List.getElem?_append_right (by simp)];simp[hr]) rfl
 rwa[show 0+(4+i)*1=4+i*1 by omega]at h
theorem chkFlow_is {c:ConfV}{a b:Int}(h:Zah c a b=0):(∃i:Nat,a=(i:Int)∧i<c.domains.l.length)∧∃i:Nat,b=(i:Int)∧i<c.domains.l.length:=by
 unfold Zah at h;split at h
 ·rename_i h1
  have h2:domIs c a=true∧domIs c b=true:=by revert h1;cases domIs c a<;>cases domIs c b<;>simp
  obtain⟨i,y,rfl,hy⟩:=Zcp h2.1;obtain⟨j,u,rfl,hu⟩:=Zcp h2.2;exact⟨⟨i,rfl,(gSs hy).1⟩,j,rfl,(gSs hu).1⟩
 ·omega
theorem ZnZ {p:SdP}{l:List Int}{i:Nat}{v:Int}(h:l[i]? =some v):(sdC p l)[4+i]? =some (.inr v):=by
 unfold sdC;rw[List.getElem?_append_right (by simp)];simp[h]
theorem ZpR (p:SdP)(l:List Int)(i:Nat)(v:Int):(sdC p l).set (4+i) (.inr v)=sdC p (l.set i v):=by
 unfold sdC;rw[List.set_append_right _ _ (by simp)];simp
theorem ZnY {p:SdP}{x:SdS}(hok:ZpC x)(i:Nat)(v:Int):Zaz ((sdL p x).set 1 (row scE 120 (.slice (some ⟨p.b,0,none⟩) 10 10) (sdC p (x.read.set i v))))=sdS p {x with read:=x.read.set i v}:=by
 have hok2:ZpC {x with read:=x.read.set i v}:=⟨by simp only[List.length_set];exact hok.1,hok.2⟩
 show Zaz _=Zaz _;congr 1;simp only[sdL,List.set_cons_succ,List.set_cons_zero,Zcl,hok,hok2]
theorem Zia (H:List SP)(wb:Nat)(c:ConfV)(P:WP)(z:WS)(hk:KC H c)(d:Nat)(p:SdP)(x:SdS)(hp:P.s[d]? =some p)(hx:z.s[d]? =some x)(hl:P.s.length≤1000)(a:Int):U0 83 #[vp wb,vi d,vi a] (wdS wb c P z::H) (.tuple #[.agg #[vi 0,vi (Zbh c z d a).1.1.1,vi (Zbh c z d a).1.1.2],Zal (Zbh c z d a).1.2]) (wdS wb c P (Zbh c z d a).2::H):=by
 have hdl:=(gSs hp).1;have hsd:=Zbj hx;refine eG func83 71 ?_;refine PT.know (ZdM 0 rfl) ?_;rintro⟨hn1,hn2,hn6⟩;refine PT.know (Zra 0 hp hx rfl) ?_;intro hok;have hr6:=hok.1;by_cases hf:Zah c a d=0
 ·obtain⟨⟨i,rfl,hi⟩,_⟩:=chkFlow_is hf;obtain⟨q,y,hq,hy⟩:∃q y,P.s[i]? =some q∧z.s[i]? =some y:=⟨_,_,gEe (by omega),gEe (by omega)⟩
  have hql:=(gSs hq).1;obtain⟨r,hr⟩:∃r,x.read[i]? =some r:=⟨_,gEe (by omega)⟩
  have hnx:Zga z d i=Zar y.r (IntKind.i64.wrap (r+1)):=by rw[Zga,Zbj hx,Zbj hy,List.getD_eq_getElem?_getD,hr];rfl
  have he0:Zbh c z d (i:Int)=if(Zar y.r (IntKind.i64.wrap (r+1))).2=true then((((Zar y.r (IntKind.i64.wrap (r+1))).1.1,IntKind.i64.wrap (IntKind.i64.wrap ((Zar y.r (IntKind.i64.wrap (r+1))).1.2.2.1*100)+(Zar y.r (IntKind.i64.wrap (r+1))).1.2.2.2)),0),wUp z d {x with read:=x.read.set i (Zar y.r (IntKind.i64.wrap (r+1))).1.1})else(((0,0),13),z):=by rw[Zbh,if_pos hf,Int.toNat_natCast,hnx,hsd]
  have hc:=fun H=>Zlx (wb:=wb) (c:=c) (X:=fun _:Unit=> []) (k':=fun _=>y.r) hq hy (fun H=>Zoa H q.r y.r (IntKind.i64.wrap (r+1))) H
  simp only[List.nil_append,Zb9 hy]at hc;refine PT.know (Zeb 0 hp rfl) ?_;rintro⟨sb,so,hA⟩;refine Xq<|Xg 2<|Bx 1 (Xn 31 [vi 0,vi 0,vi 0] (some 6) (fun b=>vp b)) fun b1=>Be<|Xq<|Xq<|Xg 8<|Bl 2 6 [(⟨wb,0,none⟩,vi c.frame),(⟨wb,1,none⟩,vi c.epoch),(⟨wb,2,none⟩,.slice c.plans.a c.plans.l.length c.plans.c),(⟨wb,3,none⟩,.slice c.domains.a c.domains.l.length c.domains.c)] (hasC (up (Zat 0 (i:=0) rfl rfl)) (hasC (up (Zat 0 (i:=1) rfl rfl)) (hasC (up (Zat 0 (i:=2) rfl rfl)) (hasC (up (Zat 0 (i:=3) rfl rfl)) Zaa))))<|Bs 1 (Xa (some 18) _ (ZhQ hk.up.up hf))<|Be<|Xq<|Xg 2<|Be<|cF<|Xk<|Xq<|Xg 8<|Bl 3 5 [(⟨wb,4,none⟩,.slice (sA sb so) P.s.length P.n)] (hasC (up (Zb8 0 hA rfl)) Zaa)<|Bs 2 (Zav (Xi 107 (.tmp 26) (.tmp 27) sb so P.s.length P.n d 1 110 (d:Int) 28 underlying107))<|Cm [(6,vp b1),(0,vp wb),(2,vi i),(7,.nilIface),(9,vp p.b)] [(⟨sb,so+d*1,none⟩,vp p.b)] (hasC (up (wd_ptr 0 hA hp rfl)) Zaa)<|Xq ?_
  refine Zk4 (fun(u:Nat×Unit)=> [(6,vp b1),(2,vi i),(7,.nilIface),(9,vp p.b),(10,vp u.1),(11,.bool ((Zar y.r (IntKind.i64.wrap (r+1))).2))]) (fun(u:Nat×Unit)=>(blk u.1 48 [vi ((Zar y.r (IntKind.i64.wrap (r+1))).1.1),vi ((Zar y.r (IntKind.i64.wrap (r+1))).1.2.1),vi ((Zar y.r (IntKind.i64.wrap (r+1))).1.2.2.1),vi ((Zar y.r (IntKind.i64.wrap (r+1))).1.2.2.2)]::blk b1 31 [vi 0,vi 0,vi 0]::wdS wb c P z::H)) ?_ (fun u=>?_)
  ·refine Xy0 0 [] 24<|At' [0,1,2,3,4,10,11,12,13] [(⟨wb,4,none⟩,.slice (sA sb so) P.s.length P.n)] (hasC (up (Zb8 0 hA rfl)) Zaa)<|Xu 5 (Xi 107 (.tmp 34) (.tmp 35) sb so P.s.length P.n i 1 110 (i:Int) 36 underlying107)<|At' [6,7,8,9] [(⟨sb,so+i*1,none⟩,vp q.b),(⟨q.b,1,none⟩,vp q.r)] (hasC (up (wd_ptr 0 hA hq rfl)) (hasC (up (Zcf 0 hq hy (i:=1) rfl rfl rfl)) Zaa))<|Xu 14 (Xj 118 (.tmp 44) (.tmp 42) p.b 4 6 i 1 3 (i:Int) 45 underlying118)<|At' [15,16] [(⟨p.b,4+i*1,none⟩,vi r)] (hasC (up (ZpG 0 hp hx hr rfl)) Zaa) ?_;refine Xw 17 21 ?_ ?_
   ·refine Xh 17 (Xa (some 48) _ (Zak 1 rfl (hc _))) (fun _=>?_);exact At' [18,19,20] [] Zaa<|Xo 21 (Xn 48 [vi 0,vi 0,vi 0,vi 0] (some 10) (fun b=>vp b)) fun b2=>Yo 22 (Xz [(0,vi ((Zar y.r (IntKind.i64.wrap (r+1))).1.1)),(1,vi ((Zar y.r (IntKind.i64.wrap (r+1))).1.2.1)),(2,vi ((Zar y.r (IntKind.i64.wrap (r+1))).1.2.2.1)),(3,vi ((Zar y.r (IntKind.i64.wrap (r+1))).1.2.2.2))])<|At' [23] [] Zaa<|Xd (mA ((b2,())))
   ·refine Xh 21 (Xn 48 [vi 0,vi 0,vi 0,vi 0] (some 10) (fun b=>vp b)) (fun b2=>?_);exact Yo 17 (Xa (some 48) _ (Zak 2 rfl (hc _)))<|At' [18,19,20] [] Zaa<|Yo 22 (Xz [(0,vi ((Zar y.r (IntKind.i64.wrap (r+1))).1.1)),(1,vi ((Zar y.r (IntKind.i64.wrap (r+1))).1.2.1)),(2,vi ((Zar y.r (IntKind.i64.wrap (r+1))).1.2.2.1)),(3,vi ((Zar y.r (IntKind.i64.wrap (r+1))).1.2.2.2))])<|At' [23] [] Zaa<|Xd (mA ((b2,())))
  obtain⟨u,_⟩:=u;dsimp only;refine Xq (Xq (Xg 2 (Ce [(6,vp b1),(2,vi i),(7,.nilIface),(9,vp p.b),(10,vp u),(52,.bool (!((Zar y.r (IntKind.i64.wrap (r+1))).2)))] ?_)));cases h1:((Zar y.r (IntKind.i64.wrap (r+1))).2)with
  |true=>
   have he:Zbh c z d (i:Int)=(((((Zar y.r (IntKind.i64.wrap (r+1))).1.1,IntKind.i64.wrap (IntKind.i64.wrap ((Zar y.r (IntKind.i64.wrap (r+1))).1.2.2.1*100)+(Zar y.r (IntKind.i64.wrap (r+1))).1.2.2.2)),0)),wUp z d {x with read:=x.read.set i (Zar y.r (IntKind.i64.wrap (r+1))).1.1}):=by rw[he0,if_pos h1]
   refine PT.lens [_,_] ((Zet hp hx).comp (Zam (l:=sdL p x) 1 rfl)) ?_;intro R hR;refine cF<|Xk<|Xq<|Xy0 0 [7] 8<|At' [0,1,2,3,4,5] [(⟨u,0,none⟩,vi ((Zar y.r (IntKind.i64.wrap (r+1))).1.1))] (hasC (ba 0) Zaa)<|Xu 6 (Xj 118 (.tmp 60) (.tmp 56) p.b 4 6 i 1 3 (i:Int) 61 underlying118)<|DT.pick 2 rfl<|Yo 7 (ZdU (E:=scE) (J:=(4+i)) (j:=0) (Sum.inr r) (Sum.inr (Zar y.r (IntKind.i64.wrap (r+1))).1.1) (.int .i64 ((Zar y.r (IntKind.i64.wrap (r+1))).1.1)) ⟨p.b,4+i*1,none⟩ (fun _=>Kr) (congrArg (fun k=>Addr.mk p.b k none) (by show 4+i*1=0+(4+i)*1+0;omega)) ((ZnZ hr)) (rfl) (by decide))<|Xd<|Xq<|Xg 11<|Bl 2 9 [(⟨u,0,none⟩,vi ((Zar y.r (IntKind.i64.wrap (r+1))).1.1)),(⟨u,2,none⟩,vi ((Zar y.r (IntKind.i64.wrap (r+1))).1.2.2.1)),(⟨u,3,none⟩,vi ((Zar y.r (IntKind.i64.wrap (r+1))).1.2.2.2))] (hasC (ba 1) (hasC (ba 1) (hasC (ba 1) Zaa)))<|Xh0 ?_ 2 2;refine Bs 1 (Xz [(0,vi 0),(1,vi ((Zar y.r (IntKind.i64.wrap (r+1))).1.1)),(2,vi (IntKind.i64.wrap ((IntKind.i64.wrap (((Zar y.r (IntKind.i64.wrap (r+1))).1.2.2.1)*100))+((Zar y.r (IntKind.i64.wrap (r+1))).1.2.2.2))))])<|Be<|Xv<|dB 0 (.tuple #[.agg #[.int .i64 0,.int .i64 ((Zar y.r (IntKind.i64.wrap (r+1))).1.1),.int .i64 (IntKind.i64.wrap ((IntKind.i64.wrap (((Zar y.r (IntKind.i64.wrap (r+1))).1.2.2.1)*100))+((Zar y.r (IntKind.i64.wrap (r+1))).1.2.2.2)))],.nilIface]) (fun w hs=>?_);exact⟨(),by rw[he];rfl,by rw[he,←ZcD hp,←ZnY hok i];rw[ZpR]at hs;exact hR _ [] H _ (Sat.erase 1 rfl (Sat.tail hs))⟩
  |false=>
   have he:Zbh c z d (i:Int)=(((0,0),13),z):=by rw[he0,if_neg (by rw[h1];simp)]
   refine cT<|Xq<|Xg 4<|Br 2 2<|Xh0 ?_ 1 2;refine Bs 1 (Xz [(0,vi 0),(1,vi 0),(2,vi 0)])<|Be<|Xv<|Zab<|dB 0 (.tuple #[.agg #[.int .i64 0,.int .i64 0,.int .i64 0],.iface 126 (.int .i64 13)]) (fun w hs=>?_);exact⟨(),by rw[he];rfl,by rw[he];exact hs.tail.tail⟩
 ·have he:Zbh c z d a=(((0,0),Zah c a d),z):=by rw[Zbh,if_neg hf]
  refine Xq<|Xg 2<|Bx 1 (Xn 31 [vi 0,vi 0,vi 0] (some 6) (fun b=>vp b)) fun b1=>Be<|Xq<|Xq<|Xg 8<|Bl 2 6 [(⟨wb,0,none⟩,vi c.frame),(⟨wb,1,none⟩,vi c.epoch),(⟨wb,2,none⟩,.slice c.plans.a c.plans.l.length c.plans.c),(⟨wb,3,none⟩,.slice c.domains.a c.domains.l.length c.domains.c)] (hasC (up (Zat 0 (i:=0) rfl rfl)) (hasC (up (Zat 0 (i:=1) rfl rfl)) (hasC (up (Zat 0 (i:=2) rfl rfl)) (hasC (up (Zat 0 (i:=3) rfl rfl)) Zaa))))<|Bs 1 (Xa (some 18) _ (ZhR hk.up.up hf))<|Be<|Xq<|Xg 2<|Be<|cT<|Xq<|Xg 4<|Br 2 2<|Bs 1 (Xz [(0,vi 0),(1,vi 0),(2,vi 0)])<|Be<|Xv<|Zab<|dB 0 (.tuple #[.agg #[.int .i64 0,.int .i64 0,.int .i64 0],.iface 126 (.int .i64 (Zah c a (d:Int)))]) (fun w hs=>?_)
  exact⟨(),by rw[he];simp only[Zal,if_neg hf],by rw[he];exact hs.tail⟩
theorem Zlv {z:WS}{d:Nat}{x:SdS}(hx:z.s[d]? =some x)(hn:x.left≠0):Zkf z d=wUp z d {x with left:=if x.left=0 then x.left else x.left-1,all:=x.all}:=by
 rw[Zkf,Zbj hx,if_neg hn]
theorem Zj6 (H:List SP)(wb:Nat)(c:ConfV)(P:WP)(z:WS)(hk:KC H c)(hb:∀y∈z.s,y.b.l.length<100000)(d:Nat)(p:SdP)(x:SdS)(hp:P.s[d]? =some p)(hx:z.s[d]? =some x)(hl:P.s.length≤1000)(a b:Int):U0 84 #[vp wb,vi d,vi a,vi b] (wdS wb c P z::H) (Zal (Zcg c z d a b).1) (wdS wb c P (Zcg c z d a b).2::H):=by
 have hdl:=(gSs hp).1;have hsd:=Zbj hx;refine eG func84 47 ?_;refine PT.know (ZdM 0 rfl) ?_;rintro⟨hn1,hn2,hn6⟩;refine PT.know (Zra 0 hp hx rfl) ?_;intro hok;by_cases hf:Zah c d a=0
 ·obtain⟨_,i,rfl,hi⟩:=chkFlow_is hf;obtain⟨q,y0,hq,hy0⟩:∃q y,P.s[i]? =some q∧z.s[i]? =some y:=⟨_,_,gEe (by omega),gEe (by omega)⟩
  have hql:=(gSs hq).1;have hpu:=fun H=>Zly (wb:=wb) (c:=c) (P:=P) (w:=z) (ι:=Unit) (l':=fun _=>if x.left=0 then x.left else x.left-1) (a':=fun _=>x.all) hp hx (fun _ h=>⟨h.1,by obtain⟨_,h2,_⟩:=h;show 0≤(if x.left=0 then x.left else x.left-1)∧(if x.left=0 then x.left else x.left-1)≤8;split<;>omega,h.2.2⟩) (fun H=>Zhc H p.p x.left x.all (by obtain⟨_,h2,_⟩:=hok;omega)) H
  refine PT.know (Zeb 0 hp rfl) ?_;rintro⟨sb,so,hA⟩;refine Xq<|Xg 1<|Be<|Xq<|Xq<|Xg 8<|Bl 2 6 [(⟨wb,0,none⟩,vi c.frame),(⟨wb,1,none⟩,vi c.epoch),(⟨wb,2,none⟩,.slice c.plans.a c.plans.l.length c.plans.c),(⟨wb,3,none⟩,.slice c.domains.a c.domains.l.length c.domains.c)] (hasC (Zat 0 (i:=0) rfl rfl) (hasC (Zat 0 (i:=1) rfl rfl) (hasC (Zat 0 (i:=2) rfl rfl) (hasC (Zat 0 (i:=3) rfl rfl) Zaa))))<|Bs 1 (Xa (some 16) _ (Znl hk.up hf))<|Be<|Xq<|Xg 2<|Be<|cF<|Xk<|Xq<|Xq<|Xg 12<|Bl 7 5 [(⟨wb,4,none⟩,.slice (sA sb so) P.s.length P.n)] (hasC (Zb8 0 hA rfl) Zaa)<|Bs 6 (Zav (Xi 107 (.tmp 23) (.tmp 24) sb so P.s.length P.n d 1 110 (d:Int) 25 underlying107))<|Cl 2 4 [(0,vp wb),(1,vi d),(2,vi i),(3,vi b),(8,.nilIface),(29,vp p.p)] [(⟨sb,so+d*1,none⟩,vp p.b),(⟨p.b,3,none⟩,vp p.p)] (hasC (wd_ptr 0 hA hp rfl) (hasC (Zcf 0 hp hx (i:=3) rfl rfl rfl) Zaa)) ?_;by_cases h0:x.left=0
  ·have he:Zcg c z d (i:Int) b=(14,z):=by rw[Zcg,if_pos hf,hsd,if_pos h0]
   have hpu0:∀v,Sat v (wdS wb c P z::H)→Calls Tryz.prog 122 #[.pointer (some ⟨p.p,0,none⟩)] v (Ret (ι:=Unit) (fun _=> .bool false) fun _=>wdS wb c P z::H):=by
    have:=hpu H;simp only[h0,if_true,show((0:Int)==0)=true from rfl,Bool.not_true]at this;rw[show({x with left:=0,all:=x.all}:SdS)=x by rw[←h0],Zb9 hx]at this;exact this
   exact Bs 1 (Xa (some 30) _ (hpu0))<|Be<|cT<|Xq<|Xg 2<|Be<|Xv (Zab (Y0 (.iface 126 (vi 14)) fun w hs=>⟨(),by rw[he];rfl,by rw[he];exact hs⟩))
  ·have hz1:=Zlv hx h0;have he:Zcg c z d (i:Int) b=(0,Zq4 (Zkf z d) d i b):=by rw[Zcg,if_pos hf,hsd,if_neg h0,Int.toNat_natCast]
   have hpu1:∀v,Sat v (wdS wb c P z::H)→Calls Tryz.prog 122 #[.pointer (some ⟨p.p,0,none⟩)] v (Ret (ι:=Unit) (fun _=> .bool true) fun _=>wdS wb c P (Zkf z d)::H):=by
    have:=hpu H;rw[hz1];simp only[show(x.left==0)=false from beq_eq_false_iff_ne.2 h0,Bool.not_false]at this;exact this
   obtain⟨y,hy,hyb⟩:∃y,(Zkf z d).s[i]? =some y∧y.b.l.length<100000:=by
    rw[Zkf,wUp,hsd];by_cases hdi:d=i
    ·subst hdi
     exact⟨{x with left:=x.left-1},by rw[List.getElem?_set_self (by omega)],hb x (gMm hx)⟩
    ·exact⟨y0,by rw[List.getElem?_set_ne hdi];exact hy0,hb y0 (gMm hy0)⟩
   have hpt:=Zrb (wb:=wb) (c:=c) (X:=fun _:Unit=> []) (k':=fun _=>Zb0 y.b d b) hq hy (fun H=>ZqS H q.x y.b d b hyb) H;simp only[List.nil_append]at hpt;exact Bs 1 (Xa (some 30) _ (hpu1))<|Be<|cF<|Xk<|Xq<|Xg 14<|Bl 9 5 [(⟨wb,4,none⟩,.slice (sA sb so) P.s.length P.n)] (hasC (Zb8 0 hA rfl) Zaa)<|Bs 8 (Zav (Xi 107 (.tmp 36) (.tmp 37) sb so P.s.length P.n i 1 110 (i:Int) 38 underlying107))<|Bl 1 7 [(⟨sb,so+i*1,none⟩,vp q.b),(⟨q.b,2,none⟩,vp q.x)] (hasC (wd_ptr 0 hA hq rfl) (hasC (Zcf 0 hq hy (i:=2) rfl rfl rfl) Zaa))<|Bs 0 (Xa (some 46) _ (hpt))<|endR<|Xq<|Xg 1<|Be<|Xv (Y0 (.nilIface) fun w hs=>⟨(),by rw[he];rfl,by rw[he,Zq4,Zbj hy];exact hs⟩)
 ·have he:Zcg c z d a b=(Zah c d a,z):=by rw[Zcg,if_neg hf]
  exact Xq<|Xg 1<|Be<|Xq<|Xq<|Xg 8<|Bl 2 6 [(⟨wb,0,none⟩,vi c.frame),(⟨wb,1,none⟩,vi c.epoch),(⟨wb,2,none⟩,.slice c.plans.a c.plans.l.length c.plans.c),(⟨wb,3,none⟩,.slice c.domains.a c.domains.l.length c.domains.c)] (hasC (Zat 0 (i:=0) rfl rfl) (hasC (Zat 0 (i:=1) rfl rfl) (hasC (Zat 0 (i:=2) rfl rfl) (hasC (Zat 0 (i:=3) rfl rfl) Zaa))))<|Bs 1 (Xa (some 16) _ (Znm hk.up hf))<|Be<|Xq<|Xg 2<|Be<|cT<|Xq<|Xg 2<|Be<|Xv (Zab (Y0 (.iface 126 (vi (Zah c (d:Int) a))) fun w hs=>⟨(),by rw[he];simp only[Zal,if_neg hf],by rw[he];exact hs⟩))
theorem Zf7 (H :List SP) (k:Nat) (s:KS) (hid:s.nx≤1099511627776) (tick th op a b:Int):U0 88 #[vp k,vi tick,vi th,.agg #[vi op,vi a,vi b]] (Zds k s::H) (.tuple #[.agg #[vi 0,vi (ZcB s tick th op a b).1.1,vi 0],Zal (ZcB s tick th op a b).1.2]) (Zds k (ZcB s tick th op a b).2::H):=by
 refine eG func88 90 ?_;refine Xq<|Xg 3<|Bx 2 (Xn 35 [vi op,vi a,vi b] (some 7) (fun b=>vp b)) fun b1=>Bx 1 (Xn 31 [vi 0,vi 0,vi 0] (some 8) (fun b=>vp b)) fun b2=>Be<|Xq<|Xg 1<|Bx 0 (Xn 31 [vi 0,vi 0,vi 0] (some 10) (fun b=>vp b)) fun b3=>endR<|Xq<|Xg 1<|Be<|Xq<|Xq<|Xg 2<|Bm [(⟨b1,0,none⟩,vi op)] (hasC (ba 2) Zaa)<|Xb 0<|Xq<|Xg 2<|Be<|Xc (op==1) (fun h1=>?_) (fun h1=>?_)
 ·have he:ZcB s tick th op a b=(((Zau s a b).1.1,(Zau s a b).1.2),(Zau s a b).2):=by rw[eq_of_beq h1]<;>rfl
  refine Xg 12<|Bl 7 5 [(⟨b1,1,none⟩,vi a),(⟨b1,2,none⟩,vi b)] (hasC (ba 2) (hasC (ba 2) Zaa))<|Bs 6 (Xa (some 25) _ (Zak 3 rfl (ZqA _ k s hid a b)))<|Br 2 4<|Bs 1 (Xz [(1,vi ((Zau s a b).1.1))])<|Be<|Xq<|Xg 4<|Bl 2 2 [(⟨b3,0,none⟩,vi 0),(⟨b3,1,none⟩,vi ((Zau s a b).1.1)),(⟨b3,2,none⟩,vi 0)] (hasC (ba 0) (hasC (ba 0) (hasC (ba 0) Zaa)))<|Xh0 ?_ 1 2;refine Bs 1 (Xz [(0,vi 0),(1,vi ((Zau s a b).1.1)),(2,vi 0)])<|Be<|Xv<|dB 0 (.tuple #[.agg #[.int .i64 0,.int .i64 ((Zau s a b).1.1),.int .i64 0],Zal (Zau s a b).1.2]) (fun w hs=>?_);exact⟨(),by rw[he]<;>rfl,by rw[he];exact hs.tail.tail.tail⟩
 ·refine Xq<|Xg 2<|Be<|Xc (op==2) (fun h2=>?_) (fun h2=>?_)
  ·have he:ZcB s tick th op a b=(((ZaC s a b).1.1,(ZaC s a b).1.2),(ZaC s a b).2):=by rw[eq_of_beq h2]<;>rfl
   refine Xg 12<|Bl 7 5 [(⟨b1,1,none⟩,vi a),(⟨b1,2,none⟩,vi b)] (hasC (ba 2) (hasC (ba 2) Zaa))<|Bs 6 (Xa (some 37) _ (Zak 3 rfl (ZqD _ k s hid a b)))<|Br 2 4<|Bs 1 (Xz [(1,vi ((ZaC s a b).1.1))])<|Be<|Xq<|Xg 4<|Bl 2 2 [(⟨b3,0,none⟩,vi 0),(⟨b3,1,none⟩,vi ((ZaC s a b).1.1)),(⟨b3,2,none⟩,vi 0)] (hasC (ba 0) (hasC (ba 0) (hasC (ba 0) Zaa)))<|Xh0 ?_ 1 2;refine Bs 1 (Xz [(0,vi 0),(1,vi ((ZaC s a b).1.1)),(2,vi 0)])<|Be<|Xv<|dB 0 (.tuple #[.agg #[.int .i64 0,.int .i64 ((ZaC s a b).1.1),.int .i64 0],Zal (ZaC s a b).1.2]) (fun w hs=>?_);exact⟨(),by rw[he]<;>rfl,by rw[he];exact hs.tail.tail.tail⟩
  ·refine Xq<|Xg 2<|Be<|Xc (op==3) (fun h3=>?_) (fun h3=>?_)
   ·have he:ZcB s tick th op a b=((0,(Zbn s th).1),(Zbn s th).2):=by rw[eq_of_beq h3]<;>rfl
    refine Xg 4<|Br 2 2<|Bs 1 (Xa (some 45) _ (Zak 3 rfl (ZrO _ k s th)))<|Be<|Xq<|Xg 4<|Bl 2 2 [(⟨b3,0,none⟩,vi 0),(⟨b3,1,none⟩,vi 0),(⟨b3,2,none⟩,vi 0)] (hasC (ba 0) (hasC (ba 0) (hasC (ba 0) Zaa)))<|Xh0 ?_ 1 2;refine Bs 1 (Xz [(0,vi 0),(1,vi 0),(2,vi 0)])<|Be<|Xv<|dB 0 (.tuple #[.agg #[.int .i64 0,.int .i64 0,.int .i64 0],Zal (Zbn s th).1]) (fun w hs=>?_);exact⟨(),by rw[he]<;>rfl,by rw[he];exact hs.tail.tail.tail⟩
   ·refine Xq<|Xg 2<|Be<|Xc (op==4) (fun h4=>?_) (fun h4=>?_)
    ·refine Xq<|Xq<|Xg 3<|Bm [(⟨b1,1,none⟩,vi a)] (hasC (ba 2) Zaa)<|Xc (decide (a>1000)) (fun hl=>?_) (fun hl=>?_)
     ·have he:ZcB s tick th op a b=((0,12),s):=by rw[eq_of_beq h4,ZcB,if_neg (by decide),if_neg (by decide),if_neg (by decide),if_pos rfl,if_pos (of_decide_eq_true hl)]
      refine Xq<|Xg 4<|Bl 2 2 [(⟨b3,0,none⟩,vi 0),(⟨b3,1,none⟩,vi 0),(⟨b3,2,none⟩,vi 0)] (hasC (ba 0) (hasC (ba 0) (hasC (ba 0) Zaa)))<|Xh0 ?_ 1 2;refine Bs 1 (Xz [(0,vi 0),(1,vi 0),(2,vi 0)])<|Be<|Xv<|Zab<|Zae<|Zab<|dB 0 (.tuple #[.agg #[.int .i64 0,.int .i64 0,.int .i64 0],.iface 126 (.int .i64 12)]) (fun w hs=>?_);exact⟨(),by rw[he]<;>rfl,by rw[he];exact hs.tail.tail.tail⟩
     ·have he:ZcB s tick th op a b=((0,(ZaY s th (IntKind.i64.wrap (IntKind.i64.wrap (tick+1)+a))).1),(ZaY s th (IntKind.i64.wrap (IntKind.i64.wrap (tick+1)+a))).2):=by rw[eq_of_beq h4,ZcB,if_neg (by decide),if_neg (by decide),if_neg (by decide),if_pos rfl,if_neg (of_decide_eq_false hl)]
      refine Xk<|Xg 9<|Bl 2 7 [(⟨b1,1,none⟩,vi a)] (hasC (ba 2) Zaa)<|Bs 1 (Xa (some 60) _ (Zak 3 rfl (ZqB _ k s th (IntKind.i64.wrap (IntKind.i64.wrap (tick+1)+a)))))<|Be<|Xq<|Xg 4<|Bl 2 2 [(⟨b3,0,none⟩,vi 0),(⟨b3,1,none⟩,vi 0),(⟨b3,2,none⟩,vi 0)] (hasC (ba 0) (hasC (ba 0) (hasC (ba 0) Zaa)))<|Xh0 ?_ 1 2;refine Bs 1 (Xz [(0,vi 0),(1,vi 0),(2,vi 0)])<|Be<|Xv<|dB 0 (.tuple #[.agg #[.int .i64 0,.int .i64 0,.int .i64 0],Zal (ZaY s th (IntKind.i64.wrap (IntKind.i64.wrap (tick+1)+a))).1]) (fun w hs=>?_);exact⟨(),by rw[he]<;>rfl,by rw[he];exact hs.tail.tail.tail⟩
    ·refine Xq<|Xg 2<|Be<|Xc (op==5) (fun h5=>?_) (fun h5=>?_)
     ·have he:ZcB s tick th op a b=((if(ZaJ s th a).1.1=true then 1 else 0,(ZaJ s th a).1.2),(ZaJ s th a).2):=by rw[eq_of_beq h5]<;>rfl
      refine Xq<|Xg 10<|Bl 6 4 [(⟨b1,1,none⟩,vi a)] (hasC (ba 2) Zaa)<|Bs 5 (Xa (some 68) _ (Zak 3 rfl (ZrN _ k s th a)))<|Be<|Xq<|Xg 2<|Be<|Xq (Xg 1 (Ce [(10,vp b3),(8,vp b2),(9,.nilIface),(11,Zal (ZaJ s th a).1.2),(72,.bool ((ZaJ s th a).1.1))] ?_));cases hw:((ZaJ s th a).1.1)with
      |true=>
       refine cT<|Xg 2<|Br 1 1<|Bs 0 (Xz [(1,vi 1)])<|endR<|Xq<|Xg 4<|Bl 2 2 [(⟨b3,0,none⟩,vi 0),(⟨b3,1,none⟩,vi 1),(⟨b3,2,none⟩,vi 0)] (hasC (ba 0) (hasC (ba 0) (hasC (ba 0) Zaa)))<|Xh0 ?_ 1 2;refine Bs 1 (Xz [(0,vi 0),(1,vi 1),(2,vi 0)])<|Be<|Xv<|dB 0 (.tuple #[.agg #[.int .i64 0,.int .i64 1,.int .i64 0],Zal (ZaJ s th a).1.2]) (fun w hs=>?_);exact⟨(),by rw[he,if_pos hw]<;>rfl,by rw[he];exact hs.tail.tail.tail⟩
      |false=>
       refine cF<|Xk<|Xq<|Xg 4<|Bl 2 2 [(⟨b3,0,none⟩,vi 0),(⟨b3,1,none⟩,vi 0),(⟨b3,2,none⟩,vi 0)] (hasC (ba 0) (hasC (ba 0) (hasC (ba 0) Zaa)))<|Xh0 ?_ 1 2;refine Bs 1 (Xz [(0,vi 0),(1,vi 0),(2,vi 0)])<|Be<|Xv<|dB 0 (.tuple #[.agg #[.int .i64 0,.int .i64 0,.int .i64 0],Zal (ZaJ s th a).1.2]) (fun w hs=>?_);exact⟨(),by rw[he,if_neg (by rw[hw];simp)]<;>rfl,by rw[he];exact hs.tail.tail.tail⟩
     ·refine Xq<|Xg 2<|Be<|Xc (op==6) (fun h6=>?_) (fun h6=>?_)
      ·have he:ZcB s tick th op a b=((0,(ZaA s a).1),(ZaA s a).2):=by rw[eq_of_beq h6]<;>rfl
       refine Xg 5<|Bl 2 3 [(⟨b1,1,none⟩,vi a)] (hasC (ba 2) Zaa)<|Bs 1 (Xa (some 79) _ (Zak 3 rfl (Zov _ k s a)))<|Be<|Xq<|Xg 4<|Bl 2 2 [(⟨b3,0,none⟩,vi 0),(⟨b3,1,none⟩,vi 0),(⟨b3,2,none⟩,vi 0)] (hasC (ba 0) (hasC (ba 0) (hasC (ba 0) Zaa)))<|Xh0 ?_ 1 2;refine Bs 1 (Xz [(0,vi 0),(1,vi 0),(2,vi 0)])<|Be<|Xv<|dB 0 (.tuple #[.agg #[.int .i64 0,.int .i64 0,.int .i64 0],Zal (ZaA s a).1]) (fun w hs=>?_);exact⟨(),by rw[he]<;>rfl,by rw[he];exact hs.tail.tail.tail⟩
      ·refine Xq<|Xg 2<|Be<|Xc (op==7) (fun h7=>?_) (fun h7=>?_)
       ·have he:ZcB s tick th op a b=((0,(Za9 s a b).1),(Za9 s a b).2):=by rw[eq_of_beq h7]<;>rfl
        refine Xg 7<|Bl 2 5 [(⟨b1,1,none⟩,vi a),(⟨b1,2,none⟩,vi b)] (hasC (ba 2) (hasC (ba 2) Zaa))<|Bs 1 (Xa (some 87) _ (Zak 3 rfl (Zou _ k s a b)))<|Be<|Xq<|Xg 4<|Bl 2 2 [(⟨b3,0,none⟩,vi 0),(⟨b3,1,none⟩,vi 0),(⟨b3,2,none⟩,vi 0)] (hasC (ba 0) (hasC (ba 0) (hasC (ba 0) Zaa)))<|Xh0 ?_ 1 2;refine Bs 1 (Xz [(0,vi 0),(1,vi 0),(2,vi 0)])<|Be<|Xv<|dB 0 (.tuple #[.agg #[.int .i64 0,.int .i64 0,.int .i64 0],Zal (Za9 s a b).1]) (fun w hs=>?_);exact⟨(),by rw[he]<;>rfl,by rw[he];exact hs.tail.tail.tail⟩
       ·refine Xg 2<|Be<|Xq<|Xg 4<|Bl 2 2 [(⟨b3,0,none⟩,vi 0),(⟨b3,1,none⟩,vi 0),(⟨b3,2,none⟩,vi 0)] (hasC (ba 0) (hasC (ba 0) (hasC (ba 0) Zaa)))<|Xh0 ?_ 1 2;refine Bs 1 (Xz [(0,vi 0),(1,vi 0),(2,vi 0)])<|Be<|Xv ?_;have he:ZcB s tick th op a b=((0,16),s):=by rw[ZcB,if_neg (beq_eq_false_iff_ne.1 h1),if_neg (beq_eq_false_iff_ne.1 h2),if_neg (beq_eq_false_iff_ne.1 h3),if_neg (beq_eq_false_iff_ne.1 h4),if_neg (beq_eq_false_iff_ne.1 h5),if_neg (beq_eq_false_iff_ne.1 h6),if_neg (beq_eq_false_iff_ne.1 h7)]
        refine Zm8 (.tuple #[.agg #[.int .i64 0,.int .i64 0,.int .i64 0],.iface 126 (.int .i64 16)]) [(⟨b2,0,none⟩,.int .i64 0),(⟨b2,1,none⟩,.int .i64 0),(⟨b2,2,none⟩,.int .i64 0)] (hasC (ZaS (T:=31) (cs:=[.int .i64 0,.int .i64 0,.int .i64 0]) 0 rfl rfl) (hasC (ZaS (T:=31) (cs:=[.int .i64 0,.int .i64 0,.int .i64 0]) 0 rfl rfl) (hasC (ZaS (T:=31) (cs:=[.int .i64 0,.int .i64 0,.int .i64 0]) 0 rfl rfl) Zaa))) (fun _=>Kr) (fun w hs=>?_) .normal (.inl rfl);exact⟨(),by rw[he]<;>rfl,by rw[he];exact hs.tail.tail.tail⟩
theorem Zfc (H :List SP) (op:Int):US 50 #[vi op] H (.bool (Zbc op)):=by
 refine eG func50 12 ?_;refine Xq<|Xg 1<|Be<|Xq<|Xq<|Xg 1<|Be<|Xb 0 (Xq (Xq (Xg 2 (Ce [(2,.bool false),(3,vi op),(4,.bool (op==1))] ?_))));cases h1:((op==1))with
 |true=>
  have he:Zbc op=true:=by rw[eq_of_beq h1];rfl
  exact cT<|Xk<|cT<|Xq<|Xg 1<|Be<|Xv (Zae (Zab (Y0 (.bool true) fun w hs=>⟨(),by rw[he],hs⟩)))
 | false=>
  refine cF<|Xq (Xg 2 (Ce [(2,.bool false),(3,vi op),(4,.bool (op==2))] ?_));cases h2:((op==2))with
  |true=>
   have he:Zbc op=true:=by rw[eq_of_beq h2];rfl
   exact cT<|Xk<|cT<|Xq<|Xg 1<|Be<|Xv (Zae (Zab (Y0 (.bool true) fun w hs=>⟨(),by rw[he],hs⟩)))
  | false=>
   refine cF<|Xq (Xg 2 (Ce [(2,.bool false),(3,vi op),(4,.bool (op==3))] ?_));cases h3:((op==3))with
   |true=>
    have he:Zbc op=true:=by rw[eq_of_beq h3];rfl
    exact cT<|Xk<|cT<|Xq<|Xg 1<|Be<|Xv (Zae (Zab (Y0 (.bool true) fun w hs=>⟨(),by rw[he],hs⟩)))
   | false=>
    refine cF<|Xq (Xg 2 (Ce [(2,.bool false),(3,vi op),(4,.bool (op==7))] ?_));cases h7:((op==7))with
    |true=>
     have he:Zbc op=true:=by rw[eq_of_beq h7];rfl
     exact cT<|Xk<|cT<|Xq<|Xg 1<|Be<|Xv (Zae (Zab (Y0 (.bool true) fun w hs=>⟨(),by rw[he],hs⟩)))
    | false=>
     refine cF<|Xq (Xg 2 (Ce [(2,.bool false),(3,vi op),(4,.bool (op==11))] ?_));cases h11:((op==11))with
     |true=>
      have he:Zbc op=true:=by rw[eq_of_beq h11];rfl
      exact cT<|Xk<|cT<|Xq<|Xg 1<|Be<|Xv (Zae (Zab (Y0 (.bool true) fun w hs=>⟨(),by rw[he],hs⟩)))
     | false=>
      refine cF<|Xq (Xg 2 (Ce [(2,.bool false),(3,vi op),(4,.bool (op==13))] ?_));cases h13:((op==13))with
      |true=>
       have he:Zbc op=true:=by rw[eq_of_beq h13];rfl
       exact cT<|Xk<|cT<|Xq<|Xg 1<|Be<|Xv (Zae (Zab (Y0 (.bool true) fun w hs=>⟨(),by rw[he],hs⟩)))
      | false=>
       refine cF<|Xg 2 (Ce [(2,.bool false),(4,.bool (op==14))] ?_);cases h14:((op==14))with
       |true=>
        have he:Zbc op=true:=by rw[eq_of_beq h14];rfl
        exact cT<|Xq<|Xg 1<|Be<|Xv (Zae (Zab (Y0 (.bool true) fun w hs=>⟨(),by rw[he],hs⟩)))
       |false=>
        refine cF<|Xk<|Xq<|Xg 1<|Be<|Xv ?_;have he:Zbc op=false:=by unfold Zbc;rw[h1,h2,h3,h7,h11,h13,h14];rfl
        refine Y0 (.bool false) (fun w hs=>?_);exact⟨(),by rw[he],hs⟩
theorem Zkb (H :List SP) (wb:Nat) (c:ConfV) (P:WP) (z:WS) (hk:KC H c) (hcl:c.domains.l.length≤1000) (hb:∀y∈z.s,y.b.l.length<100000) (d:Nat) (p:SdP) (x:SdS) (hp:P.s[d]? =some p) (hx:z.s[d]? =some x) (hl:P.s.length≤1000) (hid:x.k.nx≤1099511627776) (tick th op a b:Int):U0 48 #[vp wb,vi tick,vi d,vi th,.agg #[vi op,vi a,vi b]] (wdS wb c P z::H) (.tuple #[.agg #[vi 0,vi (Zan c z tick d th op a b).1.1.1,vi (Zan c z tick d th op a b).1.1.2],Zal (Zan c z tick d th op a b).1.2]) (wdS wb c P (Zan c z tick d th op a b).2::H):=by
 have hdl:=(gSs hp).1;have hsd:=Zbj hx;have hclk:=fun H=>Zlz (wb:=wb) (c:=c) (P:=P) (w:=z) (l':=fun _=>z.l) (fun H=>Zhp H P.l z.l (d:Int)) H
 have hthr:=fun H=>ZnF (wb:=wb) (c:=c) (X:=fun _:Unit=> []) (k':=fun _=>(ZcB x.k tick th op a b).2) hp hx (fun H=>Zf7 H p.k x.k hid tick th op a b) H
 simp only[List.nil_append]at hthr;refine eG func48 90 ?_;refine Xq<|Xg 3<|Bx 2 (Xn 35 [vi op,vi a,vi b] (some 9) (fun b=>vp b)) fun b1=>Bx 1 (Xn 31 [vi 0,vi 0,vi 0] (some 10) (fun b=>vp b)) fun b2=>Be<|Xq<|Xq<|Xg 2<|Bm [(⟨b1,0,none⟩,vi op)] (hasC (ba 1) Zaa)<|Xb 0<|Xq<|Xg 2<|Be<|Xc (op==8) (fun h8=>?_) (fun h8=>?_)
 ·have he:Zan c z tick d th op a b=(((ZgN z d,0),0),z):=by rw[eq_of_beq h8]<;>rfl
  refine Xq<|Xg 9<|Bl 4 5 [(⟨wb,5,none⟩,vp P.l)] (hasC (Zat 2 (i:=5) rfl rfl) Zaa)<|Bs 3 (Xa (some 21) _ (Zak 2 rfl (hclk _)))<|Br 2 1<|Bs 1 (Xz [(0,vi 0),(1,vi ((ZaF z.l (d:Int)).own+(ZaF z.l (d:Int)).got)),(2,vi 0)])<|Be<|Xv<|Zae<|Zab<|dB 0 (.tuple #[.agg #[.int .i64 0,.int .i64 ((ZaF z.l (d:Int)).own+(ZaF z.l (d:Int)).got),.int .i64 0],.nilIface]) (fun w hs=>?_);exact⟨(),by rw[he]<;>rfl,by rw[he];exact hs.tail.tail⟩
 ·refine Xq<|Xg 2<|Be<|Xc (op==9) (fun h9=>?_) (fun h9=>?_)
  ·have he:Zan c z tick d th op a b=(Zc2 c z d a,z):=by rw[eq_of_beq h9]<;>rfl
   refine Xq<|Xg 9<|Bl 5 4 [(⟨b1,1,none⟩,vi a)] (hasC (ba 1) Zaa)<|Bs 4 (Xa (some 29) _ (Zak 2 rfl (Zj5 _ wb c P z hk.up.up (d:Int) a)))<|Br 2 2<|Bs 1 (Xz [(0,vi 0),(1,vi ((Zc2 c z d a).1.1)),(2,vi ((Zc2 c z d a).1.2))])<|Be<|Xv<|Zae<|Zab<|dB 0 (.tuple #[.agg #[.int .i64 0,.int .i64 ((Zc2 c z d a).1.1),.int .i64 ((Zc2 c z d a).1.2)],Zal (Zc2 c z d a).2]) (fun w hs=>?_);exact⟨(),by rw[he]<;>rfl,by rw[he];exact hs.tail.tail⟩
  ·refine Xq<|Xg 2<|Be<|Xc (op==10) (fun h10=>?_) (fun h10=>?_)
   ·have he:Zan c z tick d th op a b=Zbh c z d a:=by rw[eq_of_beq h10]<;>rfl
    refine Xq<|Xg 9<|Bl 5 4 [(⟨b1,1,none⟩,vi a)] (hasC (ba 1) Zaa)<|Bs 4 (Xa (some 38) _ (Zak 2 rfl (Zia _ wb c P z hk.up.up d p x hp hx hl a)))<|Br 2 2<|Bs 1 (Xz [(0,vi 0),(1,vi ((Zbh c z d a).1.1.1)),(2,vi ((Zbh c z d a).1.1.2))])<|Be<|Xv<|Zae<|Zab<|dB 0 (.tuple #[.agg #[.int .i64 0,.int .i64 ((Zbh c z d a).1.1.1),.int .i64 ((Zbh c z d a).1.1.2)],Zal (Zbh c z d a).1.2]) (fun w hs=>?_);exact⟨(),by rw[he]<;>rfl,by rw[he];exact hs.tail.tail⟩
   ·refine Xq<|Xg 2<|Be<|Xc (op==11) (fun h11=>?_) (fun h11=>?_)
    ·have he:Zan c z tick d th op a b=(((0,0),(Zcg c z d a b).1),(Zcg c z d a b).2):=by rw[eq_of_beq h11]<;>rfl
     refine Xq<|Xg 10<|Bl 3 7 [(⟨b1,1,none⟩,vi a),(⟨b1,2,none⟩,vi b)] (hasC (ba 1) (hasC (ba 1) Zaa))<|Bs 2 (Xa (some 50) _ (Zak 2 rfl (Zj6 _ wb c P z hk.up.up hb d p x hp hx hl a b)))<|Bs 1 (Xz [(0,vi 0),(1,vi 0),(2,vi 0)])<|Be<|Xv<|Zae<|Zab<|dB 0 (.tuple #[.agg #[.int .i64 0,.int .i64 0,.int .i64 0],Zal (Zcg c z d a b).1]) (fun w hs=>?_);exact⟨(),by rw[he]<;>rfl,by rw[he];exact hs.tail.tail⟩
    ·refine Xq<|Xg 2<|Be<|Xc (op==12) (fun h12=>?_) (fun h12=>?_)
     ·have he:Zan c z tick d th op a b=Zca z d:=by rw[eq_of_beq h12]<;>rfl
      refine Xq<|Xg 7<|Br 5 2<|Bs 4 (Xa (some 55) _ (Zak 2 rfl (Zj7 _ wb c P z d p x hp hx hl)))<|Br 2 2<|Bs 1 (Xz [(0,vi 0),(1,vi ((Zca z d).1.1.1)),(2,vi ((Zca z d).1.1.2))])<|Be<|Xv<|Zae<|Zab<|dB 0 (.tuple #[.agg #[.int .i64 0,.int .i64 ((Zca z d).1.1.1),.int .i64 ((Zca z d).1.1.2)],Zal (Zca z d).1.2]) (fun w hs=>?_);exact⟨(),by rw[he]<;>rfl,by rw[he];exact hs.tail.tail⟩
     ·refine Xq<|Xg 2<|Be<|Xc (op==13) (fun h13=>?_) (fun h13=>?_)
      ·have he:Zan c z tick d th op a b=(((0,0),(ZbH c z d a).1),(ZbH c z d a).2):=by rw[eq_of_beq h13]<;>rfl
       refine Xq<|Xg 8<|Bl 3 5 [(⟨b1,1,none⟩,vi a)] (hasC (ba 1) Zaa)<|Bs 2 (Xa (some 65) _ (Zak 2 rfl (Zh6 _ wb c P z hk.up.up d a)))<|Bs 1 (Xz [(0,vi 0),(1,vi 0),(2,vi 0)])<|Be<|Xv<|Zae<|Zab<|dB 0 (.tuple #[.agg #[.int .i64 0,.int .i64 0,.int .i64 0],Zal (ZbH c z d a).1]) (fun w hs=>?_);exact⟨(),by rw[he]<;>rfl,by rw[he];exact hs.tail.tail⟩
      ·refine Xq<|Xg 2<|Ce [(10,vp b2),(9,vp b1),(0,vp wb),(1,vi tick),(2,vi d),(3,vi th),(11,.nilIface),(66,.bool (op==14))]<|Xc (op==14) (fun h14=>?_) (fun h14=>?_)
       ·have he:Zan c z tick d th op a b=(((0,0),(ZcF c z d a).1),(ZcF c z d a).2):=by rw[eq_of_beq h14]<;>rfl
        refine Xq<|Xg 8<|Bl 3 5 [(⟨b1,1,none⟩,vi a)] (hasC (ba 1) Zaa)<|Bs 2 (Xa (some 73) _ (Zak 2 rfl (Zj8 _ wb c P z hk.up.up hcl d a)))<|Bs 1 (Xz [(0,vi 0),(1,vi 0),(2,vi 0)])<|Be<|Xv<|Zae<|Zab<|dB 0 (.tuple #[.agg #[.int .i64 0,.int .i64 0,.int .i64 0],Zal (ZcF c z d a).1]) (fun w hs=>?_);exact⟨(),by rw[he]<;>rfl,by rw[he];exact hs.tail.tail⟩
       ·refine Xk (Xq ?_);have he:Zan c z tick d th op a b=((((ZcB x.k tick th op a b).1.1,0),(ZcB x.k tick th op a b).1.2),wUp z d {x with k:=(ZcB x.k tick th op a b).2}):=by rw[Zan,hsd,if_neg (beq_eq_false_iff_ne.1 h8),if_neg (beq_eq_false_iff_ne.1 h9),if_neg (beq_eq_false_iff_ne.1 h10),if_neg (beq_eq_false_iff_ne.1 h11),if_neg (beq_eq_false_iff_ne.1 h12),if_neg (beq_eq_false_iff_ne.1 h13),if_neg (beq_eq_false_iff_ne.1 h14)]
        refine PT.know (Zeb 2 hp rfl) ?_;rintro⟨sb,so,hA⟩;refine Xy (fun w=>Sat w (blk b1 35 [vi op,vi a,vi b]::Zkc wb c P::H)) [] 18 ?_ (hS:=fun _ h=>by repeat first|exact ZpA h|exact h|replace h:=Sat.tail h);refine At' [0,1,2,3,4,10,11,12] [(⟨wb,4,none⟩,.slice (sA sb so) P.s.length P.n),(⟨b1,0,none⟩,vi op),(⟨b1,1,none⟩,vi a),(⟨b1,2,none⟩,vi b)] (hasC (ZnG 1 hA rfl) (hasC (ba 0) (hasC (ba 0) (hasC (ba 0) Zaa)))) ?_ (hS:=fun _ h=>by repeat first|exact ZpA h|exact h|replace h:=Sat.tail h);refine Xu 5 (Xi 107 (.tmp 77) (.tmp 78) sb so P.s.length P.n d 1 110 (d:Int) 79 underlying107) ?_ (hS:=fun _ h=>by repeat first|exact ZpA h|exact h|replace h:=Sat.tail h);refine At' [6,7,8,9] [(⟨sb,so+d*1,none⟩,vp p.b),(⟨p.b,0,none⟩,vp p.k)] (hasC (Zrd 1 hA hp rfl) (hasC (ZpI 1 hp (i:=0) rfl rfl) Zaa)) ?_ (hS:=fun _ h=>by repeat first|exact ZpA h|exact h|replace h:=Sat.tail h);refine Yo 13 (Xa (some 87) _ (Zak 2 rfl (hthr _))) ?_ (hS:=fun _ _ h hn=>by first|exact absurd hn (by decide)|repeat first|exact h|exact ZpA h|replace h:=Sat.tail h);refine At' [14,15] [] Zaa ?_ (hS:=fun _ h=>by repeat first|exact ZpA h|exact h|replace h:=Sat.tail h);refine Yo 16 (Xz [(0,vi 0),(1,vi ((ZcB x.k tick th op a b).1.1)),(2,vi 0)]) ?_ (hS:=fun _ _ h hn=>by first|exact absurd hn (by decide)|repeat first|exact h|exact ZpA h|replace h:=Sat.tail h);refine At' [17] [] Zaa ?_ (hS:=fun _ h=>by repeat first|exact ZpA h|exact h|replace h:=Sat.tail h);refine Xd<|Xv<|dB 0 (.tuple #[.agg #[.int .i64 0,.int .i64 ((ZcB x.k tick th op a b).1.1),.int .i64 0],Zal (ZcB x.k tick th op a b).1.2]) (fun w hs=>?_);exact⟨(),by rw[he]<;>rfl,by rw[he];exact hs.tail.tail⟩
end Go.Proofs.YtfhkgohokbkgiaaGreatDoor
namespace Go.Proofs.YtfhkgohokbkgiaaGreatDoor
open Go.RowKit G Go.Extern.Stop Go.Stop Go.Extern
theorem Zli (t:Addr)(w:World):(ReflectliteValue.unpack (.iface 128 (.pointer (some t)))).run Tryz.prog w
  = .ok (.agg #[.pointer (some ⟨1,128,none⟩),.pointer (some ⟨w.heap.size,0,none⟩),.int .u64 150]) (w.alloc (.cells #[.pointer (some t)] 128)):=by kernel_rfl
theorem ZqV (a:Addr)(w:World):(ReflectliteValue.methodAny (ReflectliteValue.valueError "reflectlite.Value.Type" 0) (fun t _ _ _=>ReflectliteType.toType t) #[.agg #[.pointer (some ⟨1,128,none⟩),.pointer (some a),.int .u64 150]]).run Tryz.prog w
  = .ok (.iface 261 (.agg #[.pointer (some ⟨1,128,none⟩)])) w:=by kernel_rfl
theorem Zlk (k:Nat)(h:Value)(w:World):(Go.method (k+2) 261 (.agg #[h]) "Kind").run Tryz.prog w= .ok (271,h) w:=by kernel_rfl
theorem Zlm (k:Nat)(h:Value)(w:World):(Go.method (k+1) 261 (.agg #[h]) "Elem").run Tryz.prog w= .ok (286,.agg #[h]) w:=by kernel_rfl
theorem Zll (k:Nat)(h:Value)(w:World):(Go.method (k+1) 261 (.agg #[h]) "Implements").run Tryz.prog w= .ok (287,.agg #[h]) w:=by kernel_rfl
theorem Zln (k:Nat)(h:Value)(w:World):(Go.method (k+1) 261 (.agg #[h]) "AssignableTo").run Tryz.prog w= .ok (284,.agg #[h]) w:=by kernel_rfl
theorem ZqW (w:World):((ReflectliteType.abiMethod fun t=>(fun a:Nat=>Value.int IntKind.u8 (a:Int))<$>Rtype.kind t) #[.pointer (some ⟨1,128,none⟩)]).run Tryz.prog w= .ok (.int .u8 22) w:=by kernel_rfl
theorem ZqX (w:World):((ReflectliteType.abiMethod fun t=>(fun a:Nat=>Value.int IntKind.u8 (a:Int))<$>Rtype.kind t) #[.pointer (some ⟨1,126,none⟩)]).run Tryz.prog w= .ok (.int .u8 2) w:=by kernel_rfl
theorem Zsp (z:Sem Value)(f:TypeId→Addr→Nat→Nat→Sem Value)(v:Value):
  ReflectliteValue.method z f #[v]=(do match←ReflectliteValue.parts v with|none=>z|some (t,a,fl)=>f t a fl (fl%32)):=rfl
theorem Zj3 (a:Addr)(w:World):(ReflectliteValue.parts (.agg #[.pointer (some ⟨1,128,none⟩),.pointer (some a),.int .u64 150])).run Tryz.prog w= .ok (some (128,a,150)) w:=by kernel_rfl
theorem ZoT (a p:Addr)(W:World)(ha:W.cell? a=some (.pointer (some p))):
  (ReflectliteValue.method (ReflectliteValue.valueError "reflectlite.Value.IsNil" 0) ReflectliteValue.isNil #[.agg #[.pointer (some ⟨1,128,none⟩),.pointer (some a),.int .u64 150]]).run Tryz.prog W= .ok (.bool false) W:=by
 rw[Zsp];simp only[Sem.run_bind,Zj3,Result.andThen];simp[ReflectliteValue.isNil,loadVar,isAgg,underlying,Tryz.underlying128,ha,Result.andThen]
theorem ZqZ (w:World):(ReflectliteType.method ReflectliteType.elem #[.agg #[.pointer (some ⟨1,128,none⟩)]]).run Tryz.prog w= .ok (.iface 261 (.agg #[.pointer (some ⟨1,126,none⟩)])) w:=by kernel_rfl
theorem ZqY (w:World):(ReflectliteType.relation "Implements" ReflectliteType.implements_ #[.agg #[.pointer (some ⟨1,126,none⟩)],.iface 261 (.agg #[.pointer (some ⟨1,123,none⟩)])]).run Tryz.prog w= .ok (.bool true) w:=by kernel_rfl
theorem Znt (v:Value)(w:World):(ReflectliteType.typeOf #[.iface 126 v]).run Tryz.prog w= .ok (.iface 261 (.agg #[.pointer (some ⟨1,126,none⟩)])) w:=by kernel_rfl
theorem Zq0 (w:World):(ReflectliteType.relation "AssignableTo" ReflectliteType.assignableTo #[.agg #[.pointer (some ⟨1,126,none⟩)],.iface 261 (.agg #[.pointer (some ⟨1,126,none⟩)])]).run Tryz.prog w= .ok (.bool true) w:=by kernel_rfl
theorem Zlj (e:Int)(w:World):(ReflectliteValue.unpack (.iface 126 (.int .i64 e))).run Tryz.prog w
  = .ok (.agg #[.pointer (some ⟨1,126,none⟩),.pointer (some ⟨w.heap.size,0,none⟩),.int .u64 130]) (w.alloc (.cells #[.int .i64 e] 126)):=by kernel_rfl
theorem Znv (w:World):(Rtype.elem? 128).run Tryz.prog w= .ok (some 126) w:=by kernel_rfl
theorem Zs7 (p:Addr)(w:World):(ReflectliteValue.mk 126 p ReflectliteValue.flagAddr).run Tryz.prog w= .ok (.agg #[.pointer (some ⟨1,126,none⟩),.pointer (some p),.int .u64 386]) w:=by kernel_rfl
theorem ZoU (a p:Addr)(W:World)(ha:W.cell? a=some (.pointer (some p))):
  (ReflectliteValue.method (ReflectliteValue.valueError "reflectlite.Value.Elem" 0) ReflectliteValue.elem #[.agg #[.pointer (some ⟨1,128,none⟩),.pointer (some a),.int .u64 150]]).run Tryz.prog W
   = .ok (.agg #[.pointer (some ⟨1,126,none⟩),.pointer (some p),.int .u64 386]) W:=by
 rw[Zsp];simp only[Sem.run_bind,Zj3,Result.andThen];simp[ReflectliteValue.elem,loadVar,isAgg,underlying,Tryz.underlying128,ha,Result.andThen,Znv,Zs7]
theorem Zs6 (v x:Value):ReflectliteValue.set #[v,x]=(do
    let(some (dst,a,fl),some (src,b,_)):=(←ReflectliteValue.parts v,←ReflectliteValue.parts x)
      |unsupported (.noEntry "extern/(internal/reflectlite.Value).Set.zeroValue")
    if fl/ReflectliteValue.flagAddr%2==0 then unsupported (.noEntry "extern/(internal/reflectlite.Value).Set.unaddressable")
    let val←loadVar src b
    if←Rtype.directlyAssignable dst src then storeVar dst a val
    else if←Rtype.implements dst src then
      if(←Rtype.kind src)==20 then
        match val with
        | .nilIface=>unsupported (.noEntry "extern/reflectlite: a nil value of one interface type handed on as a value of another")
        |_=>storeVar dst a val
      else storeVar dst a (.iface src val)
    else panicString ("reflectlite.Set: value of type " ++(←Rtype.spelt src)++ " is not assignable to type " ++(←Rtype.spelt dst))
    pure (.tuple #[])):=rfl
theorem Znu (a:Addr)(w:World):(ReflectliteValue.parts (.agg #[.pointer (some ⟨1,126,none⟩),.pointer (some a),.int .u64 386])).run Tryz.prog w= .ok (some (126,a,386)) w:=by kernel_rfl
theorem ZoS (a:Addr)(w:World):(ReflectliteValue.parts (.agg #[.pointer (some ⟨1,126,none⟩),.pointer (some a),.int .u64 130])).run Tryz.prog w= .ok (some (126,a,130)) w:=by kernel_rfl
theorem ZoV (w:World):(Rtype.directlyAssignable 126 126).run Tryz.prog w= .ok true w:=by kernel_rfl
theorem Zs5 (ta b:Addr)(e:Int)(old:Value)(W:World)(hb:W.cell? b=some (.int .i64 e))(ht:W.cell? ta=some old)(hf:W.frozen? ta=false):
  (ReflectliteValue.set #[.agg #[.pointer (some ⟨1,126,none⟩),.pointer (some ta),.int .u64 386],.agg #[.pointer (some ⟨1,126,none⟩),.pointer (some b),.int .u64 130]]).run Tryz.prog W
   = .ok (.tuple #[]) (W.setCell ta (.int .i64 e)):=by
 rw[Zs6];simp only[Sem.run_bind,Znu,ZoS,Result.andThen];simp[ReflectliteValue.flagAddr,loadVar,isAgg,underlying,Tryz.underlying126,hb,Result.andThen,ZoV,storeVar,Value.cells,storeCells,Addr.add];rw[run_store Tryz.prog W ta _ _ (by rfl)];simp[ht,hf]
def Zsw :Value:= .iface 261 (.agg #[.pointer (some ⟨1,123,none⟩)])
theorem Zlh (e:Int)(t:Addr)(old:Value)(w:World)(hg:w.cell? ⟨0,0,none⟩=some (.iface 261 (.agg #[.pointer (some ⟨1,123,none⟩)])))(ht0:w.cell? t=some old)(hf0:w.frozen? t=false):
  Calls Tryz.prog 49 #[.iface 126 (.int .i64 e),.iface 128 (.pointer (some t))] w fun ev w'=>ev= .returned (.bool true)∧w'=((((w.alloc (.cells #[.pointer (some t)] 128)).alloc (.cells #[.pointer (some ⟨1,128,none⟩),.pointer (some ⟨w.heap.size,0,none⟩),.int .u64 150] 192)).alloc (.cells #[.pointer (some ⟨1,128,none⟩),.pointer (some ⟨w.heap.size,0,none⟩),.int .u64 150] 192)).alloc (.cells #[.int .i64 e] 126)).setCell t (.int .i64 e):=by
 have h6:= @run_callFunc_extern Tryz.prog 89 _ (fun args=>ReflectliteValue.unpack (args.getD 0 (.tuple #[]))) Tryz.func89 Kr Kr Kr Kr;have h7:= @run_callFunc_extern Tryz.prog 90 _ (ReflectliteValue.methodAny (ReflectliteValue.valueError "reflectlite.Value.Type" 0) (fun t _ _ _=>ReflectliteType.toType t)) Tryz.func90 Kr Kr Kr Kr;have h8:= @run_callFunc_extern Tryz.prog 91 _ (ReflectliteValue.method (ReflectliteValue.valueError "reflectlite.Value.IsNil" 0) ReflectliteValue.isNil) Tryz.func91 Kr Kr Kr Kr;have h27:= @run_callFunc_extern Tryz.prog 271 _ (ReflectliteType.abiMethod fun t=>do pure (.int .u8 (←Rtype.kind t))) Tryz.func271 Kr Kr Kr Kr;have h37:= @run_callFunc_extern Tryz.prog 286 _ (ReflectliteType.method ReflectliteType.elem) Tryz.func286 Kr Kr Kr Kr;have h38:= @run_callFunc_extern Tryz.prog 287 _ (ReflectliteType.relation "Implements" ReflectliteType.implements_) Tryz.func287 Kr Kr Kr Kr;have h10:= @run_callFunc_extern Tryz.prog 135 _ ReflectliteType.typeOf Tryz.func135 Kr Kr Kr Kr;have h35:= @run_callFunc_extern Tryz.prog 284 _ (ReflectliteType.relation "AssignableTo" ReflectliteType.assignableTo) Tryz.func284 Kr Kr Kr Kr;have h11:= @run_callFunc_extern Tryz.prog 136 _ (ReflectliteValue.method (ReflectliteValue.valueError "reflectlite.Value.Elem" 0) ReflectliteValue.elem) Tryz.func136 Kr Kr Kr Kr;have h12:= @run_callFunc_extern Tryz.prog 137 _ ReflectliteValue.set Tryz.func137 Kr Kr Kr Kr;have tO:=Znt;have mA:=Zln;have a25:=Zq0;have v25:=Zlj;have f6:=Zli;have f7:=ZqV;have mK:=Zlk;have mE:=Zlm;have mI:=Zll;have k27:=ZqW;have k25:=ZqX;have e27:=ZqZ;have i25:=ZqY;have n8:=ZoT ⟨w.heap.size,0,none⟩ t ((w.alloc (.cells #[.pointer (some t)] 128)).alloc (.cells #[.pointer (some ⟨1,128,none⟩),.pointer (some ⟨w.heap.size,0,none⟩),.int .u64 150] 192)) (by simp);have hlt:0<w.heap.size:=by
  rcases Nat.lt_or_ge 0 w.heap.size with h|h
  ·exact h
  ·simp[World.cell?,Array.getElem?_eq_none h]at hg
 have hg2:((w.alloc (.cells #[.pointer (some t)] 128)).alloc (.cells #[.pointer (some ⟨1,128,none⟩),.pointer (some ⟨w.heap.size,0,none⟩),.int .u64 150] 192)).cell? ⟨0,0,none⟩=some (.iface 261 (.agg #[.pointer (some ⟨1,123,none⟩)])):=by
  rw[World.cell?_alloc_lt _ _ ⟨0,0,none⟩ (by first|(simp;done)|(simp;omega)),World.cell?_alloc_lt _ _ ⟨0,0,none⟩ hlt];exact hg
 have htl:t.block<w.heap.size:=by
  rcases Nat.lt_or_ge t.block w.heap.size with h|h
  ·exact h
  ·simp[World.cell?,Array.getElem?_eq_none h]at ht0
 have el:=ZoU ⟨w.heap.size,0,none⟩ t (((w.alloc (.cells #[.pointer (some t)] 128)).alloc (.cells #[.pointer (some ⟨1,128,none⟩),.pointer (some ⟨w.heap.size,0,none⟩),.int .u64 150] 192)).alloc (.cells #[.pointer (some ⟨1,128,none⟩),.pointer (some ⟨w.heap.size,0,none⟩),.int .u64 150] 192)) (by rw[World.cell?_alloc_lt _ _ ⟨w.heap.size,0,none⟩ (by simp;omega)];simp);have st:=Zs5 t ⟨w.heap.size+1+1+1,0,none⟩ e old ((((w.alloc (.cells #[.pointer (some t)] 128)).alloc (.cells #[.pointer (some ⟨1,128,none⟩),.pointer (some ⟨w.heap.size,0,none⟩),.int .u64 150] 192)).alloc (.cells #[.pointer (some ⟨1,128,none⟩),.pointer (some ⟨w.heap.size,0,none⟩),.int .u64 150] 192)).alloc (.cells #[.int .i64 e] 126))
  (by rw[World.cell?_alloc_at _ _ _ _ (by simp)];rfl)
  (by rw[World.cell?_alloc_lt _ _ t (by simp;omega),World.cell?_alloc_lt _ _ t (by simp;omega),World.cell?_alloc_lt _ _ t (by simp;omega),World.cell?_alloc_lt _ _ t htl];exact ht0)
  (by rw[World.frozen?_alloc_old _ _ t (by simp;omega),World.frozen?_alloc_old _ _ t (by simp;omega),World.frozen?_alloc_old _ _ t (by simp;omega),World.frozen?_alloc_old _ _ t (Nat.ne_of_lt htl)];exact hf0)
 go_enter Tryz.func49,Tryz.ntmps49
 go_wp2
 refine wp_loop_rounds 1 ?_;rw[rounds_succ]
 go_wp2
 go_ret
 exact⟨rfl,rfl⟩
def EK (H:List SP):Prop:=∀w,Sat w H→w.cell? ⟨0,0,none⟩=some Zsw
theorem EK.up {X:SP}{H:List SP}(h:EK H):EK (X::H):=fun w hs=>h w hs.tail
theorem EK.old {W:World}{H:List SP}(i:Nat)(hi:H[i]? =some (old W))(h:W.cell? ⟨0,0,none⟩=some Zsw):EK H:=fun w hs=>by
 obtain⟨G,⟨h1,h2⟩,_⟩:=Sat.pick i hi hs;have hlt:0<W.heap.size:=by
  rcases Nat.lt_or_ge 0 W.heap.size with c|c
  ·exact c
  ·simp[World.cell?,Array.getElem?_eq_none c]at h
 rw[←h];have e:=h1.2.2.2.2 _ hlt;unfold World.cell?;rw[e]
theorem ZoR (H:List SP)(hE:EK H)(e old:Int)(b:Nat):U0 49 #[.iface 126 (.int .i64 e),.iface 128 (vp b)] (blk b 126 [.int .i64 old]::H) (.bool true) (blk b 126 [.int .i64 e]::H):=fun w hs=>by
 have h1:=ZaS (b:=b) (T:=126) (cs:=[.int .i64 old]) (H:=blk b 126 [.int .i64 old]::H) 0 rfl (j:=0) rfl w hs;have h2:w.frozen? ⟨b,0,none⟩=false:=by obtain⟨G,hG⟩:=hs.head;exact hG.1.frozen 0
 refine(Zlh e ⟨b,0,none⟩ (.int .i64 old) w (hE.up w hs) h1 h2).mono ?_;rintro ev w' ⟨rfl,rfl⟩;refine⟨(),rfl,?_⟩;exact Sat.change ((((hs.stay (Upd.alloc _ _ _)).stay (Upd.alloc _ _ _)).stay (Upd.alloc _ _ _)).stay (Upd.alloc _ _ _)) fun G hG=>⟨Upd.setCell _ ⟨b,0,none⟩ _ ((hG.2 b).2 rfl),G,⟨hG.1.set 0 _,hG.2⟩,fun x hx=> .inl hx⟩
end Go.Proofs.YtfhkgohokbkgiaaGreatDoor
namespace Go.Proofs.YtfhkgohokbkgiaaGreatDoor
open Go.RowKit G Tryz
theorem Zso (H:List SP)(b:Nat):US 49 #[.nilIface,.iface 128 (vp b)] H (.bool false):=by
 refine eG func49 42 ?_;exact Xq<|Xg 1<|Be<|Xq<|Xq<|Xg 2<|Be<|cT<|Xq<|Xg 1<|Be<|Xv (Zab (Y0 (.bool false) fun w hs=>⟨(),rfl,hs⟩))
theorem ZeP (z:WS)(d:Nat)(x:SdS):(wUp z d x).s.length=z.s.length:=by simp[wUp]
theorem ZdO (c:ConfV)(z:WS)(tick:Int)(d:Nat)(th op a b:Int):(Zan c z tick d th op a b).2.s.length=z.s.length:=by
 unfold Zan;split
 ·rfl
 split
 ·rfl
 split
 ·unfold Zbh;split
  ·split
   ·exact ZeP _ _ _
   ·rfl
  ·rfl
 split
 ·unfold Zcg;split
  ·split
   ·rfl
   ·simp only[Zq4,Zkf,ZeP]
  ·rfl
 split
 ·unfold Zca;split
  ·exact ZeP _ _ _
  ·rfl
 split
 ·unfold ZbH;split<;>rfl
 split
 ·unfold ZcF;split<;>rfl
 ·exact ZeP _ _ _
theorem ZlF (H:List SP)(hE:EK H)(wb:Nat)(c:ConfV)(P:WP)(z:WS)(hk:KC H c)(hcl:c.domains.l.length≤1000)(hb:∀y∈z.s,y.b.l.length<100000)(d:Nat)(p:SdP)(x:SdS)(hp:P.s[d]? =some p)(hx:z.s[d]? =some x)(hl:P.s.length≤1000)(hid:x.k.nx≤1099511627776)(tick th op a b:Int):U0 14 #[vp wb,vi tick,vi d,vi th,.agg #[vi op,vi a,vi b]] (wdS wb c P z::H) (.tuple #[.agg #[vi (Zbt c z tick d th op a b).1.1.1,vi (Zbt c z tick d th op a b).1.1.2.1,vi (Zbt c z tick d th op a b).1.1.2.2],.bool (Zbt c z tick d th op a b).1.2]) (wdS wb c P (Zbt c z tick d th op a b).2::H):=by
 have hdl:=(gSs hp).1;have hsd:=Zbj hx;refine eG func14 55 ?_;refine Xq<|Xg 3<|Bx 2 (Xn 35 [vi op,vi a,vi b] (some 9) (fun b=>vp b)) fun b1=>Bx 1 (Xn 31 [vi 0,vi 0,vi 0] (some 10) (fun b=>vp b)) fun b2=>Be<|Xq<|Xg 4<|Br 2 2<|Bs 1 (Xa (some 18) _ (Zak 2 rfl (Zea _ wb c P z d p x hp hx hl)))<|Be<|Xq<|Xq<|Xg 7<|Bm [(⟨b1,0,none⟩,vi op)] (hasC (ba 1) Zaa)<|Xc (op==0) (fun h1=>?_) (fun h1=>?_)
 ·have he:Zbt c z tick d th op a b=(((0,0,0),false),z):=by rw[Zbt,if_pos (eq_of_beq h1)]
  refine Xq<|Xg 3<|Br 2 1<|Bs 1 (Xz [(0,vi 0),(1,vi 0),(2,vi 0)])<|Be<|Xv<|Zab<|dB 0 (.tuple #[.agg #[.int .i64 0,.int .i64 0,.int .i64 0],.bool false]) (fun w hs=>?_);exact⟨(),by rw[he]<;>rfl,by rw[he];exact hs.tail.tail⟩
 ·have h0:op≠0:=beq_eq_false_iff_ne.1 h1;refine Xk<|Xq<|Xg 12<|Bl 7 5 [(⟨b1,0,none⟩,vi op),(⟨b1,1,none⟩,vi a),(⟨b1,2,none⟩,vi b)] (hasC (ba 1) (hasC (ba 1) (hasC (ba 1) Zaa)))<|Bs 6 (Xa (some 33) _ (Zak 2 rfl (Zkb _ wb c P z hk.up.up hcl hb d p x hp hx hl hid tick th op a b))) ?_;obtain⟨y,hy⟩:∃y,(Zan c z tick d th op a b).2.s[d]? =some y:=⟨_,gEe (by rw[ZdO];exact(gSs hx).1)⟩
  have hadd:∀(cd:Int) (H:List SP),∀v,Sat v (wdS wb c P (Zan c z tick d th op a b).2::H)→Calls Tryz.prog 51 #[.pointer (some ⟨p.r,0,none⟩),.int .i64 tick,.int .i64 op,.int .i64 cd] v (Ret (ι:=Unit) (fun _=> .tuple #[]) fun _=>wdS wb c P (wUp (Zan c z tick d th op a b).2 d {y with r:=ZbT y.r tick op cd})::H):=by
   intro cd H;have:=Zlx (wb:=wb) (c:=c) (P:=P) (X:=fun _:Unit=> []) (k':=fun _=>ZbT y.r tick op cd) hp hy (fun H=>Zqd H p.r y.r tick op cd) H;simp only[List.nil_append]at this;exact this
  refine Br 3 3<|Bx 2 (Xn 31 [vi 0,vi 0,vi 0] (some 13) (fun b=>vp b)) fun b3=>Bs 1 (Xz [(0,vi 0),(1,vi ((Zan c z tick d th op a b).1.1.1)),(2,vi ((Zan c z tick d th op a b).1.1.2))])<|Be<|Xq<|Xg 1<|Bx 0 (Xn 126 [vi 0] (some 15) (fun b=>vp b)) fun b4=>endR<|Xq (Xq (Xg 3 (Br 1 2 ?_)))
  by_cases hz0:(Zan c z tick d th op a b).1.2=0
  ·have hsay:ZaK (Zan c z tick d th op a b).1=(0,(Zan c z tick d th op a b).1.1.1,(Zan c z tick d th op a b).1.1.2):=by rw[ZaK,if_pos hz0]
   refine Bs 0 (ZoN 49 [Zal (Zan c z tick d th op a b).1.2,.iface 128 (vp b4)] (some 38) (fun _=> .bool false) (fun _=>(blk b4 126 [.int .i64 0]::blk b3 31 [.int .i64 0,.int .i64 ((Zan c z tick d th op a b).1.1.1),.int .i64 ((Zan c z tick d th op a b).1.1.2)]::blk b2 31 [.int .i64 0,.int .i64 0,.int .i64 0]::blk b1 35 [.int .i64 op,.int .i64 a,.int .i64 b]::wdS wb c P (Zan c z tick d th op a b).2::H)) (fun _=>Kr) ((by rw[hz0];exact Zso _ b4)))<|endR<|cF<|Xk<|Xq<|Xq<|Xg 3<|Cl 1 2 [(13,vp b3),(10,vp b2),(9,vp b1),(1,vi tick),(11,.bool false),(12,vp p.b),(42,vi op)] [(⟨b1,0,none⟩,vi op)] (hasC (ba 3) Zaa)<|Bs 0 (Xa (some 43) _ (Zfc _ op))<|endR ?_;cases hkp:((Zbc op))with
   |true=>
    have he:Zbt c z tick d th op a b=(((0,(Zan c z tick d th op a b).1.1.1,(Zan c z tick d th op a b).1.1.2),true),wUp (Zan c z tick d th op a b).2 d {y with r:=ZbT y.r tick op (0)}):=by rw[Zbt,if_neg h0,hsay,Zdr,if_pos hkp,Zbj hy]
    refine cT<|Xy0 0 [9] 10<|At' [0,1,2,3,4,5,6,7,8] [(⟨p.b,1,none⟩,vp p.r),(⟨b1,0,none⟩,vi op),(⟨b3,0,none⟩,vi 0)] (hasC (Zcf 4 hp hy (i:=1) rfl rfl rfl) (hasC (ba 3) (hasC (ba 1) Zaa)))<|Yo 9 (Xa (some 53) _ (Zak 4 rfl (hadd (0) _)))<|Xd<|Xq<|Xg 3<|Bl 2 1 [(⟨b3,0,none⟩,vi 0),(⟨b3,1,none⟩,vi ((Zan c z tick d th op a b).1.1.1)),(⟨b3,2,none⟩,vi ((Zan c z tick d th op a b).1.1.2))] (hasC (ba 1) (hasC (ba 1) (hasC (ba 1) Zaa)))<|Xh0 ?_ 2 2;refine Bs 1 (Xz [(0,vi 0),(1,vi ((Zan c z tick d th op a b).1.1.1)),(2,vi ((Zan c z tick d th op a b).1.1.2))])<|Be<|Xv<|dB 0 (.tuple #[.agg #[.int .i64 0,.int .i64 ((Zan c z tick d th op a b).1.1.1),.int .i64 ((Zan c z tick d th op a b).1.1.2)],.bool true]) (fun w hs=>?_);exact⟨(),by rw[he]<;>rfl,by rw[he];exact hs.tail.tail.tail.tail⟩
   |false=>
    have he:Zbt c z tick d th op a b=(((0,(Zan c z tick d th op a b).1.1.1,(Zan c z tick d th op a b).1.1.2),true),(Zan c z tick d th op a b).2):=by rw[Zbt,if_neg h0,hsay,Zdr,if_neg (by rw[hkp];simp)]
    refine cF<|Xk<|Xq<|Xg 3<|Bl 2 1 [(⟨b3,0,none⟩,vi 0),(⟨b3,1,none⟩,vi ((Zan c z tick d th op a b).1.1.1)),(⟨b3,2,none⟩,vi ((Zan c z tick d th op a b).1.1.2))] (hasC (ba 1) (hasC (ba 1) (hasC (ba 1) Zaa)))<|Xh0 ?_ 2 2;refine Bs 1 (Xz [(0,vi 0),(1,vi ((Zan c z tick d th op a b).1.1.1)),(2,vi ((Zan c z tick d th op a b).1.1.2))])<|Be<|Xv<|dB 0 (.tuple #[.agg #[.int .i64 0,.int .i64 ((Zan c z tick d th op a b).1.1.1),.int .i64 ((Zan c z tick d th op a b).1.1.2)],.bool true]) (fun w hs=>?_);exact⟨(),by rw[he]<;>rfl,by rw[he];exact hs.tail.tail.tail.tail⟩
  ·have hsay:ZaK (Zan c z tick d th op a b).1=((Zan c z tick d th op a b).1.2,0,0):=by rw[ZaK,if_neg hz0]
   refine Bs 0 (ZoN 49 [Zal (Zan c z tick d th op a b).1.2,.iface 128 (vp b4)] (some 38) (fun _=> .bool true) (fun _=>(blk b4 126 [.int .i64 (Zan c z tick d th op a b).1.2]::blk b3 31 [.int .i64 0,.int .i64 ((Zan c z tick d th op a b).1.1.1),.int .i64 ((Zan c z tick d th op a b).1.1.2)]::blk b2 31 [.int .i64 0,.int .i64 0,.int .i64 0]::blk b1 35 [.int .i64 op,.int .i64 a,.int .i64 b]::wdS wb c P (Zan c z tick d th op a b).2::H)) (fun _=>Kr) ((by rw[Zal,if_neg hz0];exact ZoR _ (hE.up.up.up.up) (Zan c z tick d th op a b).1.2 0 b4)))<|endR<|cT<|Xg 3<|Bl 1 2 [(⟨b4,0,none⟩,vi ((Zan c z tick d th op a b).1.2))] (hasC (ba 0) Zaa)<|Xh0 ?_ 1 1;refine Bs 0 (Xz [(0,vi ((Zan c z tick d th op a b).1.2)),(1,vi 0),(2,vi 0)])<|endR<|Xq<|Xq<|Xg 3<|Cl 1 2 [(13,vp b3),(10,vp b2),(9,vp b1),(1,vi tick),(11,.bool false),(12,vp p.b),(42,vi op)] [(⟨b1,0,none⟩,vi op)] (hasC (ba 3) Zaa)<|Bs 0 (Xa (some 43) _ (Zfc _ op))<|endR ?_;cases hkp:((Zbc op))with
   |true=>
    have he:Zbt c z tick d th op a b=((((Zan c z tick d th op a b).1.2,0,0),true),wUp (Zan c z tick d th op a b).2 d {y with r:=ZbT y.r tick op ((Zan c z tick d th op a b).1.2)}):=by rw[Zbt,if_neg h0,hsay,Zdr,if_pos hkp,Zbj hy]
    refine cT<|Xy0 0 [9] 10<|At' [0,1,2,3,4,5,6,7,8] [(⟨p.b,1,none⟩,vp p.r),(⟨b1,0,none⟩,vi op),(⟨b3,0,none⟩,vi ((Zan c z tick d th op a b).1.2))] (hasC (Zcf 4 hp hy (i:=1) rfl rfl rfl) (hasC (ba 3) (hasC (ba 0) Zaa)))<|Yo 9 (Xa (some 53) _ (Zak 4 rfl (hadd ((Zan c z tick d th op a b).1.2) _)))<|Xd<|Xq<|Xg 3<|Bl 2 1 [(⟨b3,0,none⟩,vi ((Zan c z tick d th op a b).1.2)),(⟨b3,1,none⟩,vi 0),(⟨b3,2,none⟩,vi 0)] (hasC (ba 0) (hasC (ba 0) (hasC (ba 0) Zaa)))<|Xh0 ?_ 2 2;refine Bs 1 (Xz [(0,vi ((Zan c z tick d th op a b).1.2)),(1,vi 0),(2,vi 0)])<|Be<|Xv<|dB 0 (.tuple #[.agg #[.int .i64 ((Zan c z tick d th op a b).1.2),.int .i64 0,.int .i64 0],.bool true]) (fun w hs=>?_);exact⟨(),by rw[he]<;>rfl,by rw[he];exact hs.tail.tail.tail.tail⟩
   |false=>
    have he:Zbt c z tick d th op a b=((((Zan c z tick d th op a b).1.2,0,0),true),(Zan c z tick d th op a b).2):=by rw[Zbt,if_neg h0,hsay,Zdr,if_neg (by rw[hkp];simp)]
    refine cF<|Xk<|Xq<|Xg 3<|Bl 2 1 [(⟨b3,0,none⟩,vi ((Zan c z tick d th op a b).1.2)),(⟨b3,1,none⟩,vi 0),(⟨b3,2,none⟩,vi 0)] (hasC (ba 0) (hasC (ba 0) (hasC (ba 0) Zaa)))<|Xh0 ?_ 2 2;refine Bs 1 (Xz [(0,vi ((Zan c z tick d th op a b).1.2)),(1,vi 0),(2,vi 0)])<|Be<|Xv<|dB 0 (.tuple #[.agg #[.int .i64 ((Zan c z tick d th op a b).1.2),.int .i64 0,.int .i64 0],.bool true]) (fun w hs=>?_);exact⟨(),by rw[he]<;>rfl,by rw[he];exact hs.tail.tail.tail.tail⟩
def Zr1 (x:SdS):SdS:={x with left:=x.all}
def epS (z:WS)(u:Nat):WS:={z with s:=(z.s.take u).map Zr1++z.s.drop u,t:=Zdv z.t}
theorem Zr4 (z:WS):epS z 0={z with t:=Zdv z.t}:=by simp[epS]
theorem Zm6 (z:WS){u:Nat}(h:z.s.length≤u):epS z u=Zdt z:=by
 simp only[epS,Zdt];rw[List.take_of_length_le h,List.drop_eq_nil_of_le h,List.append_nil];rfl
theorem Zja {z:WS}{u:Nat}{x:SdS}(hx:z.s[u]? =some x):(epS z u).s[u]? =some x:=by
 have hu:=(gSs hx).1;simp only[epS];rw[List.getElem?_append_right (by simp[List.length_take];omega),List.length_map,List.length_take,Nat.min_eq_left (by omega),Nat.sub_self,List.getElem?_drop];exact hx
theorem ZqO (z:WS)(u:Nat):(epS z u).s.length=z.s.length:=by simp[epS];omega
theorem ZjV {z:WS}{u:Nat}{x:SdS}(hx:z.s[u]? =some x):wUp (epS z u) u {x with left:=x.all,all:=x.all}=epS z (u+1):=by
 have hu:=(gSs hx)
 obtain⟨hl,rfl⟩:=hu;simp only[epS,wUp];congr 1;rw[List.set_append_right _ _ (by simp[List.length_take];omega),List.length_map,List.length_take,Nat.min_eq_left (by omega),Nat.sub_self,List.take_add_one,gEe hl,←List.getElem_cons_drop hl,List.set_cons_zero,List.map_append];simp[Zr1]
theorem Zh7 (H:List SP)(wb:Nat)(c:ConfV)(P:WP)(z:WS)(hl:P.s.length≤1000):U0 20 #[vp wb] (wdS wb c P z::H) (.tuple #[]) (wdS wb c P (Zdt z)::H):=by
 have hc:=ZlA (wb:=wb) (c:=c) (P:=P) (w:=z) (H:=H) (X:=fun _:Unit=> []) (t':=fun _=>Zdv z.t) (fun R=>Zom (R++H) P.t c z.t);simp only[List.nil_append,←Zr4]at hc;refine eG func20 28 ?_;refine PT.know (ZdM 0 rfl) ?_;rintro⟨hn1,hn2,hn6⟩;refine ZcW 0 (fun(u:Nat)=> [(0,vp wb),(2,vi u)]) (fun(u:Nat)=>(wdS wb c P (epS z u)::H)) (fun k (u:Nat)=>k+u=P.s.length) Kr Kr Kr Kr ?_ ?_
 ·rintro k u hku K hK;refine Xq<|Xg 7<|Cm [(0,vp wb),(2,vi u),(14,.bool (decide ((u:Int)< (P.s.length:Int))))] [(⟨wb,4,none⟩,.slice P.a P.s.length P.n)] (hasC (Zat 0 (i:=4) rfl rfl) Zaa)<|Xc (decide ((u:Int)< (P.s.length:Int))) (fun h1=>?_) (fun h1=>?_)
  ·have hu:u<P.s.length:=by have:=of_decide_eq_true h1;omega
   obtain⟨p,x,hp,hx⟩:∃p x,P.s[u]? =some p∧z.s[u]? =some x:=⟨_,_,gEe hu,gEe (by omega)⟩
   have hfi:=fun H=>Zly (wb:=wb) (c:=c) (P:=P) (ι:=Unit) (l':=fun _=>x.all) (a':=fun _=>x.all) hp (Zja hx) (fun _ h=>⟨h.1,h.2.2,h.2.2⟩) (fun H=>ZiJ H p.p x.left x.all) H
   simp only[ZjV hx]at hfi;refine PT.know (Zeb 0 hp rfl) ?_;rintro⟨sb,so,hA⟩;refine Xq<|Xg 11<|Bl 6 5 [(⟨wb,4,none⟩,.slice (sA sb so) P.s.length P.n)] (hasC (Zb8 0 hA rfl) Zaa)<|Bs 5 (Zav (Xi 107 (.tmp 18) (.tmp 19) sb so P.s.length P.n u 1 110 (u:Int) 20 underlying107))<|Bl 1 4 [(⟨sb,so+u*1,none⟩,vp p.b),(⟨p.b,3,none⟩,vp p.p)] (hasC (wd_ptr 0 hA hp rfl) (hasC (Zcf 0 hp (Zja hx) (i:=3) rfl rfl rfl) Zaa))<|Bs 0 (Xa (some 25) _ (hfi _))<|endR<|Xq (Xg 3 (Ce [(0,vp wb),(2,vi (IntKind.i64.wrap ((u:Int)+1)))] ?_));refine Zep 0 Kr Kr ?_;rw[show IntKind.i64.wrap ((u:Int)+1)=((u+1:Nat):Int)by rw[IntKind.wrap_i64];omega];exact Xp _ (Zen (hK (k-1) (u+1) (by omega) (by omega)))
  ·have hu:P.s.length≤u:=by have:=of_decide_eq_false h1;omega
   exact Xk (Y1 (.tuple #[]) fun w hs=>⟨(),rfl,by rw[Zm6 z (by omega)]at hs;exact hs⟩)
 ·intro K hK;refine Xq<|Xg 5<|Bl 1 4 [(⟨wb,6,none⟩,vp P.t)] (hasC (Zat 0 (i:=6) rfl rfl) Zaa)<|Bs 0 (Xa (some 7) _ (hc))<|endR<|Xq<|Xg 1<|Be<|Xq ?_;refine ZcY Kr ?_;refine Xp [(0,vp wb),(2,vi 0)] ?_;refine ZeC Kr (hK P.s.length 0 (by omega))
theorem Zsl :Ety Tryz.prog bpE 110 (.pointer none):=Ety.of (b:=8) Kr (by decide) rfl
theorem Zla {sb kb rb xb pb:Nat}{y:DomV}{H:List SP}{v:World}(h:Sat v (blk sb 120 [.pointer (some ⟨kb,0,none⟩),.pointer (some ⟨rb,0,none⟩),.pointer (some ⟨xb,0,none⟩),.pointer (some ⟨pb,0,none⟩),.int .i64 0,.int .i64 0,.int .i64 0,.int .i64 0,.int .i64 0,.int .i64 0]::Zds kb (k0 (Zh2 y.threads) (Zh3 y.groups))::rgS rb (rg0 y.ring)::bxS xb (bx0 y.box)::puS pb (sends y.sends) (sends y.sends)::H)):Sat v (sdS ⟨sb,kb,rb,xb,pb⟩ (Zh1 y)::H):=by
 have h1:=Sat.blkRows (E:=scE) (T:=120) (xs:=[.inl kb,.inl rb,.inl xb,.inl pb,.inr 0,.inr 0,.inr 0,.inr 0,.inr 0,.inr 0]) (by show 10≤maxLen;decide) h;have hok:ZpC (Zh1 y):=⟨rfl,ZeH _,ZeH _⟩
 exact Sat.closeMany (l:=sdL ⟨sb,kb,rb,xb,pb⟩ (Zh1 y)) (Sat.closePure hok h1)
theorem ZnE {P:List SdP}{s:List SdS}(h:P.length=s.length)(p:SdP)(x:SdS):Zh0 (P++[p]) (s++[x])=Zh0 P s++[sdS p x]:=by
 unfold Zh0;rw[List.zipWith_append h];rfl
theorem ZoY {P:List SdP}{s:List SdS}(hl:P.length=s.length){p:SdP}{x:SdS}{H:List SP}{v:World}(h:Sat v (sdS p x::Zaz (Zh0 P s)::H)):Sat v (Zaz (Zh0 (P++[p]) (s++[x]))::H):=by
 rw[ZnE hl];refine Sat.closeMany ?_;have h1:=Sat.openMany (SatF.swap h);refine Sat.perm ?_ h1;rw[List.append_assoc];exact(List.Perm.refl _)
def Zef (c:ConfV)(u:Nat):List SdS:=(c.domains.l.take u).map Zh1
theorem ZgU {c:ConfV}{u:Nat}{y:DomV}(h:c.domains.l[u]? =some y):Zef c (u+1)=Zef c u++[Zh1 y]:=by
 unfold Zef;rw[List.take_add_one,h,List.map_append];rfl
theorem Zjd {wb:Nat}{c:ConfV}{P:WP}{z:WS}{H:List SP}{v:World}(hp:P.s.length=z.s.length∧z.s.length=c.domains.l.length∧z.s.length≤6)(h:Sat v (blk wb 109 [.int .i64 c.frame,.int .i64 c.epoch,.slice c.plans.a c.plans.l.length c.plans.c,.slice c.domains.a c.domains.l.length c.domains.c,.slice P.a P.s.length P.n,.pointer (some ⟨P.l,0,none⟩),.pointer (some ⟨P.t,0,none⟩)]::row bpE 110 (.slice P.a P.s.length P.n) (P.s.map (·.b))::Zaz (Zh0 P.s z.s)::ltS P.t c z.t::ldS P.l z.l::H)):Sat v (wdS wb c P z::H):=by
 refine Sat.closeMany (l:=wdL wb c P z) ?_;refine Sat.perm ?_ (Sat.closePure hp h);have e1:∀(a b m t l p:SP),List.Perm (p::a::b::m::t::l::H) ([a,b,l,t,m,p]++H):=fun a b m t l p=>by
  have h1:List.Perm (p::a::b::m::t::l::H) ([a,b,m,t,l]++p::H):=(List.perm_middle (a:=p) (l₁:=[a,b,m,t,l]) (l₂:=H)).symm;have h2:List.Perm (m::t::l::p::H) (l::t::m::p::H):=(List.Perm.cons m (.swap l t _)).trans ((List.Perm.swap l m _).trans (.cons l (.swap t m _)));exact h1.trans ((h2.cons b).cons a)
 exact e1 _ _ _ _ _ _
theorem ZgH (H:List SP)(c:ConfV)(hk:KC H c)(hcl:c.domains.l.length≤6):U1 13 #[cV c] H (ι:=Nat×WP) (fun q=> .pointer (some ⟨q.1,0,none⟩)) fun q=>wdS q.1 c q.2 (w0 c)::H:=by
 refine eG func13 49 ?_;refine Xq<|Xg 2<|Bx 1 (Xn 26 [vi c.frame,vi c.epoch,.slice c.plans.a c.plans.l.length c.plans.c,.slice c.domains.a c.domains.l.length c.domains.c] (some 1) (fun b=>vp b)) fun b1=>Be<|Xq<|Xy0 0 [] 10<|At' [0,1,2,3,5] [(⟨b1,0,none⟩,vi c.frame),(⟨b1,1,none⟩,vi c.epoch),(⟨b1,2,none⟩,.slice c.plans.a c.plans.l.length c.plans.c),(⟨b1,3,none⟩,.slice c.domains.a c.domains.l.length c.domains.c),(⟨b1,3,none⟩,.slice c.domains.a c.domains.l.length c.domains.c),(⟨b1,0,none⟩,vi c.frame),(⟨b1,1,none⟩,vi c.epoch),(⟨b1,2,none⟩,.slice c.plans.a c.plans.l.length c.plans.c),(⟨b1,3,none⟩,.slice c.domains.a c.domains.l.length c.domains.c)] (hasC (ba 0) (hasC (ba 0) (hasC (ba 0) (hasC (ba 0) (hasC (ba 0) (hasC (ba 0) (hasC (ba 0) (hasC (ba 0) (hasC (ba 0) Zaa)))))))))<|Xo 4 (Xa (some 10) _ (ZkU _ (c.domains.l.length:Int))) fun(lb:Nat)=>Xo 6 (Xa (some 12) _ (ZkP _ c (by omega))) fun(tb:Nat)=>At' [7] [] Zaa<|Xo 8 (Xn 109 [vi c.frame,vi c.epoch,.slice c.plans.a c.plans.l.length c.plans.c,.slice c.domains.a c.domains.l.length c.domains.c,.slice none 0 0,vp lb,vp tb] (some 14) (fun b=>vp b)) fun b2=>At' [9] [] Zaa<|Xd<|Xq<|Xq<|Xg 4<|Bm [(⟨b1,3,none⟩,.slice c.domains.a c.domains.l.length c.domains.c)] (hasC (ba 3) Zaa)<|Xb 0 ?_
 refine PT.rowNil bpE 110 ?_;refine PT.sat (fun w hs=>Sat.closeMany (l:=Zh0 [] (Zef c 0)) hs) ?_;refine PT.pick 0 rfl<|PT.pick 1 rfl<|PT.pick 2 rfl<|Xp [(2,.pointer none),(3,vp b2),(16,.slice c.domains.a c.domains.l.length c.domains.c),(17,vi (c.domains.l.length:Int)),(18,vi 0)] ?_;refine ZbV (fun(q:Option Addr×Nat×List SdP)=> [(2,.pointer none),(3,vp b2),(16,.slice c.domains.a c.domains.l.length c.domains.c),(17,vi (c.domains.l.length:Int)),(18,vi (q.2.2.length:Int))]) (fun(q:Option Addr×Nat×List SdP)=>(blk b2 109 [vi c.frame,vi c.epoch,.slice c.plans.a c.plans.l.length c.plans.c,.slice c.domains.a c.domains.l.length c.domains.c,.slice q.1 ((q.2.2.map (·.b)).length) q.2.1,vp lb,vp tb]::row bpE 110 (.slice q.1 (q.2.2.map (·.b)).length q.2.1) (q.2.2.map (·.b))::Zaz (Zh0 q.2.2 (Zef c q.2.2.length))::ltS tb c (lt0 c.domains.l.length)::ldS lb (List.replicate (mnI (mxI (c.domains.l.length:Int) 1) 6).toNat ⟨0,0,0,0⟩)::blk b1 26 [vi c.frame,vi c.epoch,.slice c.plans.a c.plans.l.length c.plans.c,.slice c.domains.a c.domains.l.length c.domains.c]::H)) (fun k (q:Option Addr×Nat×List SdP)=>k+q.2.2.length=c.domains.l.length) c.domains.l.length (none,0,[]) Kr (by simp) ?_;rintro k ⟨qa,qc,P⟩ hku;dsimp only at hku;refine Xq<|Xg 1<|Ce [(2,.pointer none),(3,vp b2),(16,.slice c.domains.a c.domains.l.length c.domains.c),(17,vi (c.domains.l.length:Int)),(18,vi (P.length:Int)),(19,.bool (decide ((P.length:Int)< (c.domains.l.length:Int))))]<|Xq (Xc (decide ((P.length:Int)< (c.domains.l.length:Int))) (fun h1=>?_) (fun h1=>?_))
 ·have hu:P.length<c.domains.l.length:=by have:=of_decide_eq_true h1;omega
  obtain⟨y,hy⟩:∃y,c.domains.l[P.length]? =some y:=⟨_,gEe hu⟩
  have hs1:=ZgU hy;have hs2:(Zef c P.length).length=P.length:=by rw[Zef,List.length_map,List.length_take];omega
  refine PT.know ((hk.domains).up.up.up.up.up.up.isSome ((by intro h9;rw[h9]at hu;simp at hu))) ?_;rintro⟨db,dd,hA⟩
  try rw[hA]
  refine Xk<|Xq<|Xb 1<|Xq<|Xg 4<|Bs 3 (Zav (Xi 24 (.tmp 16) (.tmp 18) db dd c.domains.l.length c.domains.c P.length 10 44 (P.length:Int) 20 underlying24))<|Cl 2 1 [(2,.pointer none),(3,vp b2),(16,.slice (some ⟨db,dd,none⟩) c.domains.l.length c.domains.c),(17,vi (c.domains.l.length:Int)),(18,vi (P.length:Int)),(21,.agg #[vi y.lab.level,.int .u64 y.lab.cats,.slice y.routes.a y.routes.l.length y.routes.c,.slice y.release.a y.release.l.length y.release.c,vi y.to,vi y.threads,vi y.groups,vi y.ring,vi y.sends,vi y.box])] [(⟨db,dd+P.length*10,none⟩,vi y.lab.level),(⟨db,dd+P.length*10+1,none⟩,.int .u64 y.lab.cats),(⟨db,dd+P.length*10+2,none⟩,.slice y.routes.a y.routes.l.length y.routes.c),(⟨db,dd+P.length*10+3,none⟩,.slice y.release.a y.release.l.length y.release.c),(⟨db,dd+P.length*10+4,none⟩,vi y.to),(⟨db,dd+P.length*10+5,none⟩,vi y.threads),(⟨db,dd+P.length*10+6,none⟩,vi y.groups),(⟨db,dd+P.length*10+7,none⟩,vi y.ring),(⟨db,dd+P.length*10+8,none⟩,vi y.sends),(⟨db,dd+P.length*10+9,none⟩,vi y.box)] (hasC (up (up (up (up (up (up (hk.domains.cell hA (i:=P.length) (x:=y) hy (j:=0) rfl))))))) (hasC (up (up (up (up (up (up (hk.domains.cell hA (i:=P.length) (x:=y) hy (j:=1) rfl))))))) (hasC (up (up (up (up (up (up (hk.domains.cell hA (i:=P.length) (x:=y) hy (j:=2) rfl))))))) (hasC (up (up (up (up (up (up (hk.domains.cell hA (i:=P.length) (x:=y) hy (j:=3) rfl))))))) (hasC (up (up (up (up (up (up (hk.domains.cell hA (i:=P.length) (x:=y) hy (j:=4) rfl))))))) (hasC (up (up (up (up (up (up (hk.domains.cell hA (i:=P.length) (x:=y) hy (j:=5) rfl))))))) (hasC (up (up (up (up (up (up (hk.domains.cell hA (i:=P.length) (x:=y) hy (j:=6) rfl))))))) (hasC (up (up (up (up (up (up (hk.domains.cell hA (i:=P.length) (x:=y) hy (j:=7) rfl))))))) (hasC (up (up (up (up (up (up (hk.domains.cell hA (i:=P.length) (x:=y) hy (j:=8) rfl))))))) (hasC (up (up (up (up (up (up (hk.domains.cell hA (i:=P.length) (x:=y) hy (j:=9) rfl))))))) Zaa))))))))))<|Bx 1 (Xn 44 [vi 0,.int .u64 0,.slice none 0 0,.slice none 0 0,vi 0,vi 0,vi 0,vi 0,vi 0,vi 0] (some 5) (fun b=>vp b)) fun b3=>Bs 0 (Xz [(0,vi y.lab.level),(1,.int .u64 y.lab.cats),(2,.slice y.routes.a y.routes.l.length y.routes.c),(3,.slice y.release.a y.release.l.length y.release.c),(4,vi y.to),(5,vi y.threads),(6,vi y.groups),(7,vi y.ring),(8,vi y.sends),(9,vi y.box)])<|endR ?_
  try rw[←hA]
  refine PT.pick 2 rfl<|Xy0 1 [25] 26<|At' [0,1,2,3,4,5,6,7,8,10,11,13,14,16,17] [(⟨b2,4,none⟩,.slice qa ((P.map (·.b)).length) qc),(⟨b3,5,none⟩,vi y.threads),(⟨b3,6,none⟩,vi y.groups),(⟨b3,7,none⟩,vi y.ring),(⟨b3,9,none⟩,vi y.box),(⟨b3,8,none⟩,vi y.sends)] (hasC (ba 1) (hasC (ba 0) (hasC (ba 0) (hasC (ba 0) (hasC (ba 0) (hasC (ba 0) Zaa))))))<|Xo 9 (Xa (some 31) _ (ZmR _ y.threads y.groups)) fun(kb:Nat)=>Xo 12 (Xa (some 34) _ (Zky _ y.ring)) fun(rb:Nat)=>Xo 15 (Xa (some 37) _ (Zlg _ y.box)) fun(xb:Nat)=>Xo 18 (Xa (some 40) _ (ZkK _ y.sends)) fun(pb:Nat)=>At' [19] [] Zaa<|Xo 20 (Xn 120 [vp kb,vp rb,vp xb,vp pb,vi 0,vi 0,vi 0,vi 0,vi 0,vi 0] (some 42) (fun b=>vp b)) fun b4=>Xo 21 (Xn 110 [vp b4] (some 43) (fun b=> .slice (some ⟨b,0,none⟩) 1 1)) fun b5=>DT.pick 6 rfl<|Xo 22 (Xf (E:=bpE) 107 (.tmp 26) (.tmp 43) qa qc (P.map (·.b)) [b4] (.slice (some ⟨b5,0,none⟩) 1 1) 44 underlying107 (Zsl) (Zbr (x:=b4) 1 rfl) (by simp;omega)) fun r6=>At' [23,24] [] Zaa<|DT.pick 8 rfl ?_
  refine Zqk 25 0 [true,true,true,true,true,true,true,true,true,true,true,true,true,true,true,true,true,true,true,true,true,true,true,true,true,true] rfl rfl Kr (ZdT [(4,.slice r6.1 (((P.map (·.b))++[b4]).length) r6.2)] [.int .i64 c.frame,.int .i64 c.epoch,.slice c.plans.a c.plans.l.length c.plans.c,.slice c.domains.a c.domains.l.length c.domains.c,.slice r6.1 (((P.map (·.b))++[b4]).length) r6.2,.pointer (some ⟨lb,0,none⟩),.pointer (some ⟨tb,0,none⟩)] (fun _=>Kr) Kr Kr) (fun _ _ h hn=>by first|exact h|exact h.tail|exact h.tail.tail|exact h.tail.tail.tail|exact h.tail.tail.tail.tail|exact h.tail.tail.tail.tail.tail|exact h.tail.tail.tail.tail.tail.tail|exact h.tail.tail.tail.tail.tail.tail.tail|exact h.tail.tail.tail.tail.tail.tail.tail.tail|exact h.tail.tail.tail.tail.tail.tail.tail.tail.tail|exact h.tail.tail.tail.tail.tail.tail.tail.tail.tail.tail|exact h.tail.tail.tail.tail.tail.tail.tail.tail.tail.tail.tail|exact absurd hn (by decide)) (fun _=>?_);refine Xd (Xg 2 (Ce [(2,.pointer none),(3,vp b2),(16,.slice c.domains.a c.domains.l.length c.domains.c),(17,vi (c.domains.l.length:Int)),(18,vi (IntKind.i64.wrap ((P.length:Int)+1)))] ?_));rw[show IntKind.i64.wrap ((P.length:Int)+1)=((P.length+1:Nat):Int)by rw[IntKind.wrap_i64];omega];rw[show((P.map (·.b))++[b4])=((P++[(⟨b4,kb,rb,xb,pb⟩:SdP)]).map (·.b))by simp];refine PT.pick 8 rfl<|PT.drop<|PT.pick 2 rfl<|PT.drop<|PT.pick 1 rfl<|PT.pick 1 rfl<|PT.pick 7 rfl<|PT.pick 4 rfl<|PT.pick 5 rfl<|PT.pick 6 rfl<|PT.pick 7 rfl<|PT.pick 7 rfl ?_;refine PT.sat (fun w hs=>ZoY hs2.symm (Zla hs)) ?_;rw[←hs1];refine PT.pick 0 rfl<|PT.pick 2 rfl<|PT.pick 2 rfl<|Xp [(2,.pointer none),(3,vp b2),(16,.slice c.domains.a c.domains.l.length c.domains.c),(17,vi (c.domains.l.length:Int)),(18,vi ((P.length+1:Nat):Int))] ?_;exact Za3 (k-1) (r6.1,r6.2,P++[(⟨b4,kb,rb,xb,pb⟩:SdP)]) (by simp) (by simp) (by omega) (by simp;omega)
 ·have hu:P.length=c.domains.l.length:=by have:=of_decide_eq_false h1;omega
  refine Xx 0<|Zao<|Zao<|Zax<|Xq<|Xg 2<|Be<|Xv (Y0 (vp b2) (fun w hs=>?_));exact⟨(b2,⟨lb,tb,qa,qc,P⟩),rfl,by
   have h9:Zef c P.length=(w0 c).s:=by rw[Zef,hu,List.take_length];rfl
   rw[h9,List.length_map]at hs;have h8:=Sat.erase 5 rfl hs;exact Zjd (P:=⟨lb,tb,qa,qc,P⟩) (z:=w0 c) ⟨by simp[w0,hu],by simp[w0],by simp[w0];omega⟩ h8⟩
theorem Zot (s:KS)(id j:Int):(ZaJ s id j).2.nx=s.nx:=by unfold ZaJ;split;rfl;split<;>rfl
theorem ZmN (s:KS)(id j:Int):(ZaY s id j).2.nx=s.nx:=by unfold ZaY;split<;>rfl
theorem Zk1 (s:KS)(j:Int):(ZaA s j).2.nx=s.nx:=by unfold ZaA;split<;>rfl
theorem Zow (s:KS)(id:Int):(Zbn s id).2.nx=s.nx:=by unfold Zbn;split<;>rfl
theorem ZjL (s :KS) (par wt most:Int) (thr:Bool):(ZaB s par wt most thr).2.nx≤s.nx+1:=by
  unfold ZaB;split
  · show s.nx≤_;omega
  · split
    · show s.nx≤_;omega
    · split
      · show s.nx≤_;omega
      · split
        · show s.nx≤_;omega
        · exact Int.le_refl _
theorem Zhr (s:KS)(par wt:Int):(Zau s par wt).2.nx≤s.nx+1:=by
 have:=ZjL s par wt s.mt true;unfold Zau;split
 ·exact this
 ·exact this
def SdB (m:Int)(x:SdS):Prop:=(x.b.l.length:Int)≤m∧x.k.nx≤m
def WdB (z:WS)(m:Int):Prop:=∀x∈z.s,SdB m x
theorem SdB.mono {x:SdS}{m n:Int}(h:SdB m x)(hm:m≤n):SdB n x:=⟨by have:=h.1;omega,by have:=h.2;omega⟩
theorem WdB.mono {z:WS}{m n:Int}(h:WdB z m)(hm:m≤n):WdB z n:=fun x hx=>(h x hx).mono hm
theorem WdB.up {z:WS}{m:Int}(h:WdB z m)(d:Nat){x:SdS}(hx:SdB m x):WdB (wUp z d x) m:=fun y hy=>by
 rcases List.mem_or_eq_of_mem_set hy with h1|rfl
 ·exact h y h1
 ·exact hx
theorem ZeU {z:WS}{m:Int}(h:WdB z m)(hm:0≤m)(d:Nat):SdB m (ZbJ z d):=by
 unfold ZbJ;rw[List.getD_eq_getElem?_getD];by_cases c:d<z.s.length
 ·rw[gEe c];exact h _ (List.getElem_mem c)
 ·rw[List.getElem?_eq_none (by omega)];exact⟨hm,hm⟩
theorem Zta (c:ConfV):WdB (w0 c) 2:=fun x hx=>by
 simp only[w0,List.mem_map]at hx;obtain⟨y,_,rfl⟩:=hx;exact⟨by simp[Zh1,bx0],Zhr _ 0 1⟩
theorem ZmU (s:KS)(par wt:Int):(ZaC s par wt).2.nx≤s.nx+1:=ZjL s par wt s.mg false
theorem ZkX (s:KS)(id W:Int):(Za9 s id W).2.nx=s.nx:=rfl
theorem ZqG (k:KS)(tick th op a b:Int):(ZcB k tick th op a b).2.nx≤k.nx+1:=by
 unfold ZcB;split
 ·exact Zhr k a b
 split
 ·exact ZmU k a b
 split
 ·show(Zbn k th).2.nx≤_;rw[Zow];omega
 split
 ·split
  ·show k.nx≤_;omega
  ·show(ZaY k th _).2.nx≤_;rw[ZmN];omega
 split
 ·show(ZaJ k th a).2.nx≤_;rw[Zot];omega
 split
 ·show(ZaA k a).2.nx≤_;rw[Zk1];omega
 split
 ·show(Za9 k a b).2.nx≤_;rw[ZkX];omega
 ·show k.nx≤_;omega
theorem ZoP (x:BxS)(d v:Int):((Zb0 x d v).l.length:Int)≤x.l.length+1:=by
 unfold Zb0;split
 ·omega
 ·simp
theorem ZpL {c :ConfV} {z:WS} {m:Int} (h:WdB z m) (hm:0≤m) (tick:Int) (d:Nat) (th op a b:Int):WdB (Zan c z tick d th op a b).2 (m+1):=by
  have hx:=ZeU h hm d;have h1:WdB z (m+1):=h.mono (by omega);have hx1:SdB (m+1) (ZbJ z d):=hx.mono (by omega);unfold Zan;split
  · exact h1
  split
  · exact h1
  split
  · unfold Zbh;split
    · split
      · exact h1.up d ⟨hx1.1,hx1.2⟩
      · exact h1
    · exact h1
  split
  · unfold Zcg;split
    · split
      · exact h1
      · have h2:WdB (Zkf z d) m:=h.up d ⟨hx.1,hx.2⟩
        have h3:=ZeU h2 hm a.toNat;refine(h2.mono (by omega:m≤m+1)).up a.toNat ⟨?_,by have:=h3.2;show(ZbJ (Zkf z d) a.toNat).k.nx≤m+1;omega⟩;have:=ZoP (ZbJ (Zkf z d) a.toNat).b d b;have:=h3.1;show(((Zb0 (ZbJ (Zkf z d) a.toNat).b d b).l.length:Nat):Int)≤m+1;omega
    · exact h1
  split
  · unfold Zca;split
    · refine h1.up d ⟨?_,hx1.2⟩
      have:=hx1.1;show(((ZbJ z d).b.l.drop 1).length:Int)≤m+1;rw[List.length_drop];omega
    · exact h1
  split
  · unfold ZbH;split<;>exact h1
  split
  · unfold ZcF;split<;>exact h1
  · refine h1.up d ⟨hx1.1,?_⟩
    have:=ZqG (ZbJ z d).k tick th op a b;have:=hx.2;show(ZcB (ZbJ z d).k tick th op a b).2.nx≤m+1;omega
theorem Zo5 {c:ConfV}{z:WS}{m:Int}(h:WdB z m)(hm:0≤m)(tick:Int)(d:Nat)(th op a b:Int):WdB (Zbt c z tick d th op a b).2 (m+1):=by
 unfold Zbt;split
 ·exact h.mono (by omega)
 ·have h1:=ZpL (c:=c) h hm tick d th op a b
  show WdB (Zdr _ _ _ _ _) _;unfold Zdr;split
  ·have h2:=ZeU h1 (by omega) d
   exact h1.up d ⟨h2.1,h2.2⟩
  ·exact h1
theorem ZnJ {z:WS}{m:Int}(h:WdB z m):WdB (Zdt z) m:=fun x hx=>by
 simp only[Zdt,List.mem_map]at hx;obtain⟨y,hy,rfl⟩:=hx;exact⟨(h y hy).1,(h y hy).2⟩
theorem ZnK (c:ConfV)(z:WS)(tick:Int)(d:Nat)(th op a b:Int):(Zbt c z tick d th op a b).2.s.length=z.s.length:=by
 unfold Zbt;split
 ·rfl
 ·show(Zdr _ _ _ _ _).s.length=_
  unfold Zdr;split
  ·rw[ZeP,ZdO]
  ·exact ZdO _ _ _ _ _ _ _ _
section
variable (H :List SP)(wb:Nat)(c:ConfV)(P:WP)(z:WS)
theorem Zo4 (hE:EK H)(hk:KC H c)(m:Int)(hB:WdB z m)(hm:m<100000)(tick th op a b:Int)(d:Nat)(hd:d<c.domains.l.length):U0 14 #[vp wb,.int .i64 tick,.int .i64 (d:Int),.int .i64 th,.agg #[.int .i64 op,.int .i64 a,.int .i64 b]] (wdS wb c P z::H) (.tuple #[.agg #[.int .i64 (Zbt c z tick d th op a b).1.1.1,.int .i64 (Zbt c z tick d th op a b).1.1.2.1,.int .i64 (Zbt c z tick d th op a b).1.1.2.2],.bool (Zbt c z tick d th op a b).1.2]) (wdS wb c P (Zbt c z tick d th op a b).2::H):=fun v hs=>by
 obtain⟨p,x,hp,hx⟩:=Zjl 0 rfl hd v hs;obtain⟨h1,h2,h3⟩:=ZdM 0 rfl v hs;have hxB:=hB x (gMm hx);exact ZlF H hE wb c P z hk (by omega) (fun y hy=>by have:=(hB y hy).1;omega) d p x hp hx (by omega) (by have:=hxB.2;omega) tick th op a b v hs
theorem ZnI :U0 20 #[vp wb] (wdS wb c P z::H) (.tuple #[]) (wdS wb c P (Zdt z)::H):=fun v hs=>by
 obtain⟨h1,h2,h3⟩:=ZdM 0 rfl v hs;exact Zh7 H wb c P z (by omega) v hs
theorem ZfE (d:Nat)(hd:d<c.domains.l.length):U1 15 #[vp wb,.int .i64 (d:Int)] (wdS wb c P z::H) (ι:=AN) (fun q=> .slice q.1 (ZbJ z d).r.l.length q.2) fun q=>row reE 48 (.slice q.1 (ZbJ z d).r.l.length q.2) (ZbJ z d).r.l::wdS wb c P z::H:=fun v hs=>by
 obtain⟨p,x,hp,hx⟩:=Zjl 0 rfl hd v hs;obtain⟨h1,h2,h3⟩:=ZdM 0 rfl v hs;rw[Zbj hx];exact Zf8 H wb c P z d p x hp hx (by omega) v hs
theorem ZdN (d:Nat)(p:SdP)(hp:P.s[d]? =some p):US 25 #[vp wb,.int .i64 (d:Int)] (wdS wb c P z::H) (vp p.k):=fun v hs=>by
 obtain⟨h1,h2,h3⟩:=ZdM 0 rfl v hs;have hd:=(gSs hp).1;exact ZgI H wb c P z d p z.s[d] hp (gEe (by omega)) (by omega) v hs
end
structure BA where
 p0:Nat
 p1:Nat
 ps:Nat
 r00:Nat
 r01:Nat
 r0:Nat
 r10:Nat
 r1:Nat
 e1:Nat
 r20:Nat
 r2:Nat
 e3:Nat
 ds:Nat
def svI (b:Nat)(l:List Int):SV Int:=⟨some ⟨b,0,none⟩,l.length,l⟩
def bD0 (q:BA):DomV:=⟨⟨0,0⟩,⟨some ⟨q.r0,0,none⟩,2,[svI q.r00 [1,3],svI q.r01 [2,3]]⟩,⟨none,0,[]⟩,-1,4,2,4,3,2⟩
def bD1 (q:BA):DomV:=⟨⟨1,1⟩,⟨some ⟨q.r1,0,none⟩,1,[svI q.r10 [3]]⟩,svI q.e1 [0,1],0,4,2,4,3,2⟩
def bD2 (q:BA):DomV:=⟨⟨1,2⟩,⟨some ⟨q.r2,0,none⟩,1,[svI q.r20 [3]]⟩,⟨none,0,[]⟩,-1,4,2,4,3,2⟩
def bD3 (q:BA):DomV:=⟨⟨2,3⟩,⟨none,0,[]⟩,svI q.e3 [0,1,2],1,4,2,4,3,2⟩
def bC (q:BA):ConfV:=⟨8,2,⟨some ⟨q.ps,0,none⟩,2,[svI q.p0 [2,2,2,2],svI q.p1 [5,1,1,1]]⟩,⟨some ⟨q.ds,0,none⟩,4,[bD0 q,bD1 q,bD2 q,bD3 q]⟩⟩
def bL (q:BA):List SP:=[row (kE .i64) 3 (.slice (some ⟨q.p0,0,none⟩) ([2,2,2,2]:List Int).length ([2,2,2,2]:List Int).length) ([2,2,2,2]:List Int),row (kE .i64) 3 (.slice (some ⟨q.p1,0,none⟩) ([5,1,1,1]:List Int).length ([5,1,1,1]:List Int).length) ([5,1,1,1]:List Int),row (svE Int) 42 (.slice (some ⟨q.ps,0,none⟩) [svI q.p0 [2,2,2,2],svI q.p1 [5,1,1,1]].length [svI q.p0 [2,2,2,2],svI q.p1 [5,1,1,1]].length) [svI q.p0 [2,2,2,2],svI q.p1 [5,1,1,1]],row (kE .i64) 3 (.slice (some ⟨q.r00,0,none⟩) ([1,3]:List Int).length ([1,3]:List Int).length) ([1,3]:List Int),row (kE .i64) 3 (.slice (some ⟨q.r01,0,none⟩) ([2,3]:List Int).length ([2,3]:List Int).length) ([2,3]:List Int),row (svE Int) 42 (.slice (some ⟨q.r0,0,none⟩) [svI q.r00 [1,3],svI q.r01 [2,3]].length [svI q.r00 [1,3],svI q.r01 [2,3]].length) [svI q.r00 [1,3],svI q.r01 [2,3]],row (kE .i64) 3 (.slice (some ⟨q.r10,0,none⟩) ([3]:List Int).length ([3]:List Int).length) ([3]:List Int),row (svE Int) 42 (.slice (some ⟨q.r1,0,none⟩) [svI q.r10 [3]].length [svI q.r10 [3]].length) [svI q.r10 [3]],row (kE .i64) 3 (.slice (some ⟨q.e1,0,none⟩) ([0,1]:List Int).length ([0,1]:List Int).length) ([0,1]:List Int),row (kE .i64) 3 (.slice (some ⟨q.r20,0,none⟩) ([3]:List Int).length ([3]:List Int).length) ([3]:List Int),row (svE Int) 42 (.slice (some ⟨q.r2,0,none⟩) [svI q.r20 [3]].length [svI q.r20 [3]].length) [svI q.r20 [3]],row (kE .i64) 3 (.slice (some ⟨q.e3,0,none⟩) ([0,1,2]:List Int).length ([0,1,2]:List Int).length) ([0,1,2]:List Int),row Zs2 44 (.slice (some ⟨q.ds,0,none⟩) 4 4) [bD0 q,bD1 q,bD2 q,bD3 q]]
def bS (q:BA):SP:=Zaz (bL q)
theorem KR.nil {α:Type}{E:Enc α}{H:List SP}:KR H E ⟨none,0,[]⟩:=fun w _=>⟨none,0,rfl,Nat.le_refl _,Nat.zero_le _,fun _=>⟨rfl,rfl⟩,fun a h=>by cases h⟩
theorem bKR {α:Type}{E:Enc α}{T:TypeId}{H:List SP}{q:BA}{A:Option Addr}{m k:Nat}{xs:List α}(i:Nat)(hi:(bL q)[i]? =some (row E T (.slice A m k) xs))(hm:m=xs.length):KR (bS q::H) E ⟨A,k,xs⟩:=fun w hs=>by
 have h:=Sat.openMany hs;have hl:i< (bL q).length:=(gSs hi).1;exact ZeZ (H:=bL q++H) i (by rw[List.getElem?_append_left hl];exact hi) hm w h
theorem bKC (q:BA)(H:List SP):KC (bS q::H) (bC q) where
 plans:=bKR 2 rfl rfl
 plan:=fun p hp=>by
  simp only[bC,List.mem_cons,List.not_mem_nil,or_false]at hp;rcases hp with rfl|rfl
  ·exact bKR (T:=3) (m:=4) 0 rfl rfl
  ·exact bKR (T:=3) (m:=4) 1 rfl rfl
 domains:=bKR 12 rfl rfl
 routes:=fun d hd=>by
  simp only[bC,List.mem_cons,List.not_mem_nil,or_false]at hd;rcases hd with rfl|rfl|rfl|rfl
  ·exact bKR 5 rfl rfl
  ·exact bKR 7 rfl rfl
  ·exact bKR 10 rfl rfl
  ·exact KR.nil
 route:=fun d hd r hr=>by
  simp only[bC,List.mem_cons,List.not_mem_nil,or_false]at hd;rcases hd with rfl|rfl|rfl|rfl
  ·simp only[bD0,List.mem_cons,List.not_mem_nil,or_false]at hr
   rcases hr with rfl|rfl
   ·exact bKR (T:=3) (m:=2) 3 rfl rfl
   ·exact bKR (T:=3) (m:=2) 4 rfl rfl
  ·simp only[bD1,List.mem_cons,List.not_mem_nil,or_false]at hr
   subst hr;exact bKR (T:=3) (m:=1) 6 rfl rfl
  ·simp only[bD2,List.mem_cons,List.not_mem_nil,or_false]at hr
   subst hr;exact bKR (T:=3) (m:=1) 9 rfl rfl
  ·simp only[bD3,List.not_mem_nil]at hr
 release:=fun d hd=>by
  simp only[bC,List.mem_cons,List.not_mem_nil,or_false]at hd;rcases hd with rfl|rfl|rfl|rfl
  ·exact KR.nil
  ·exact bKR (T:=3) (m:=2) 8 rfl rfl
  ·exact KR.nil
  ·exact bKR (T:=3) (m:=3) 11 rfl rfl
theorem Zlb {q:BA}{H:List SP}{w:World}(h:Sat w (blk q.ds 44 (Zs2.flat [bD0 q,bD1 q,bD2 q,bD3 q])::blk q.e3 3 ((kE .i64).flat [0,1,2])::blk q.r2 42 ((svE Int).flat [svI q.r20 [3]])::blk q.r20 3 ((kE .i64).flat [3])::blk q.e1 3 ((kE .i64).flat [0,1])::blk q.r1 42 ((svE Int).flat [svI q.r10 [3]])::blk q.r10 3 ((kE .i64).flat [3])::blk q.r0 42 ((svE Int).flat [svI q.r00 [1,3],svI q.r01 [2,3]])::blk q.r01 3 ((kE .i64).flat [2,3])::blk q.r00 3 ((kE .i64).flat [1,3])::blk q.ps 42 ((svE Int).flat [svI q.p0 [2,2,2,2],svI q.p1 [5,1,1,1]])::blk q.p1 3 ((kE .i64).flat [5,1,1,1])::blk q.p0 3 ((kE .i64).flat [2,2,2,2])::H)):Sat w (bS q::H):=by
 refine Sat.closeMany (l:=bL q) ?_;have s:∀{α:Type} {E:Enc α} {T:TypeId} {H:List SP} {b:Nat} (xs:List α) (R:List SP),xs.length≤maxLen→Sat w (blk b T (E.flat xs)::(H++R))→Sat w (H++(row E T (.slice (some ⟨b,0,none⟩) xs.length xs.length) xs::R)):=fun xs R hl h=>Sat.perm List.perm_middle.symm (Sat.blkRows hl h)
 have h1:=s (H:=[_,_,_,_,_,_,_,_,_,_,_,_]) [bD0 q,bD1 q,bD2 q,bD3 q] H (by show 4≤maxLen;decide) h;have h2:=s (H:=[_,_,_,_,_,_,_,_,_,_,_]) ([0,1,2]:List Int) (_::H) (by show 3≤maxLen;decide) h1;have h3:=s (H:=[_,_,_,_,_,_,_,_,_,_]) [svI q.r20 [3]] (_::_::H) (by show 1≤maxLen;decide) h2;have h4:=s (H:=[_,_,_,_,_,_,_,_,_]) ([3]:List Int) (_::_::_::H) (by show 1≤maxLen;decide) h3;have h5:=s (H:=[_,_,_,_,_,_,_,_]) ([0,1]:List Int) (_::_::_::_::H) (by show 2≤maxLen;decide) h4;have h6:=s (H:=[_,_,_,_,_,_,_]) [svI q.r10 [3]] (_::_::_::_::_::H) (by show 1≤maxLen;decide) h5;have h7:=s (H:=[_,_,_,_,_,_]) ([3]:List Int) (_::_::_::_::_::_::H) (by show 1≤maxLen;decide) h6;have h8:=s (H:=[_,_,_,_,_]) [svI q.r00 [1,3],svI q.r01 [2,3]] (_::_::_::_::_::_::_::H) (by show 2≤maxLen;decide) h7;have h9:=s (H:=[_,_,_,_]) ([2,3]:List Int) (_::_::_::_::_::_::_::_::H) (by show 2≤maxLen;decide) h8;have h10:=s (H:=[_,_,_]) ([1,3]:List Int) (_::_::_::_::_::_::_::_::_::H) (by show 2≤maxLen;decide) h9;have h11:=s (H:=[_,_]) [svI q.p0 [2,2,2,2],svI q.p1 [5,1,1,1]] (_::_::_::_::_::_::_::_::_::_::H) (by show 2≤maxLen;decide) h10;have h12:=s (H:=[_]) ([5,1,1,1]:List Int) (_::_::_::_::_::_::_::_::_::_::_::H) (by show 4≤maxLen;decide) h11;exact s (H:=[]) ([2,2,2,2]:List Int) (_::_::_::_::_::_::_::_::_::_::_::_::H) (by show 4≤maxLen;decide) h12
theorem ZhV (H:List SP):U1 12 #[] H (ι:=BA) (fun q=> .agg #[vi 8,vi 2,.slice (s0 q.ps) 2 2,.slice (s0 q.ds) 4 4]) fun q=>bS q::H:=by
 refine eG func12 23 ?_;refine Xq<|Xg 1<|Bx 0 (Xn 26 [vi 0,vi 0,.slice none 0 0,.slice none 0 0] (some 0) (fun b=>vp b)) fun b1=>endR<|Xq<|Xg 23<|Bx 22 (Xn 3 [vi 2,vi 2,vi 2,vi 2] (some 1) (fun b=> .slice (s0 b) 4 4)) fun b2=>Bx 21 (Xn 3 [vi 5,vi 1,vi 1,vi 1] (some 2) (fun b=> .slice (s0 b) 4 4)) fun b3=>Bx 20 (Xn 42 [.slice (s0 b2) 4 4,.slice (s0 b3) 4 4] (some 3) (fun b=> .slice (s0 b) 2 2)) fun b4=>Br 19 1<|Bx 18 (Xn 3 [vi 1,vi 3] (some 5) (fun b=> .slice (s0 b) 2 2)) fun b5=>Bx 17 (Xn 3 [vi 2,vi 3] (some 6) (fun b=> .slice (s0 b) 2 2)) fun b6=>Bx 16 (Xn 42 [.slice (s0 b5) 2 2,.slice (s0 b6) 2 2] (some 7) (fun b=> .slice (s0 b) 2 2)) fun b7=>Br 14 2<|Bx 13 (Xn 3 [vi 3] (some 10) (fun b=> .slice (s0 b) 1 1)) fun b8=>Bx 12 (Xn 42 [.slice (s0 b8) 1 1] (some 11) (fun b=> .slice (s0 b) 1 1)) fun b9=>Bx 11 (Xn 3 [vi 0,vi 1] (some 12) (fun b=> .slice (s0 b) 2 2)) fun b10=>Br 9 2<|Bx 8 (Xn 3 [vi 3] (some 15) (fun b=> .slice (s0 b) 1 1)) fun b11=>Bx 7 (Xn 42 [.slice (s0 b11) 1 1] (some 16) (fun b=> .slice (s0 b) 1 1)) fun b12=>Br 5 2<|Bx 4 (Xn 3 [vi 0,vi 1,vi 2] (some 19) (fun b=> .slice (s0 b) 3 3)) fun b13=>Br 3 1<|Bx 2 (Xn 44 [vi 0,.int .u64 0,.slice (s0 b7) 2 2,.slice none 0 0,vi (-1),vi 4,vi 2,vi 4,vi 3,vi 2,vi 1,.int .u64 1,.slice (s0 b9) 1 1,.slice (s0 b10) 2 2,vi 0,vi 4,vi 2,vi 4,vi 3,vi 2,vi 1,.int .u64 2,.slice (s0 b12) 1 1,.slice none 0 0,vi (-1),vi 4,vi 2,vi 4,vi 3,vi 2,vi 2,.int .u64 3,.slice none 0 0,.slice (s0 b13) 3 3,vi 1,vi 4,vi 2,vi 4,vi 3,vi 2] (some 21) (fun b=> .slice (s0 b) 4 4)) fun b14=>Br 1 1<|Xh0 ?_ 13 1
 refine Bs 0 (Xz [(0,vi 8),(1,vi 2),(2,.slice (s0 b4) 2 2),(3,.slice (s0 b14) 4 4)])<|endR<|Xv<|dB 0 (.agg #[.int .i64 8,.int .i64 2,.slice (s0 b4) 2 2,.slice (s0 b14) 4 4]) (fun w hs=>?_);exact⟨⟨b2,b3,b4,b5,b6,b7,b8,b9,b10,b11,b12,b13,b14⟩,rfl,Zlb hs.tail⟩
end Go.Proofs.YtfhkgohokbkgiaaGreatDoor
namespace Go.Proofs.YtfhkgohokbkgiaaGreatDoor.G
open Go.RowKit Go.Proofs.YtfhkgohokbkgiaaGreatDoor
def eqC :Value→Value→Bool
 | .int _ a,.int _ b=>a==b
 | .bool a,.bool b=>a==b
 |_,_=>false
def Zk8 :List Value→List Value→Bool
 | [a],[b]=>eqC a b
 |a::us,b::vs=>eqC a b&&Zk8 us vs
 |_,_=>true
def okC (P:Program)(t:TypeId):Value→Value→Bool
 | .int k _,.int k' _=>match P.underlying t with|some (.int _)=>decide (k=k')|_=>false
 | .bool _,.bool _=>match P.underlying t with|some .bool=>true|_=>false
 |_,_=>false
def Zlq (P:Program):Nat→List Field→List Value→List Value→Bool
 |_,[],[],[]=>true
 |i,f::fs,a::us,b::vs=> !(f.name== "_")&&Nat.beq f.offset i&&P.plainKey f.type&&okC P f.type a b&&Zlq P (i+1) fs us vs
 |_,_,_,_=>false
theorem Zdy {P :Program} (w:World) (d:Nat) (xs ys:Array Value):∀(fs:List Field) (i:Nat) (us vs:List Value),Zlq P i fs us vs=true→(∀j v,us[j]? =some v→xs[i+j]? =some v)→(∀j v,vs[j]? =some v→ys[i+j]? =some v)→
    (Op.eqFields (d+1) xs ys fs).run P w= .ok (Zk8 us vs) w
  | [],_,[],[],_,_,_=>by simp[Op.eqFields,Zk8]
  | [],_,[],_::_,h,_,_=>by simp[Zlq]at h
  | [],_,_::_,_,h,_,_=>by simp[Zlq]at h
  |_::_,_,[],_,h,_,_=>by simp[Zlq]at h
  |_::_,_,_::_,[],h,_,_=>by simp[Zlq]at h
  | f ::fs,i,a::us,b::vs,h,hx,hy=>by
    simp only[Zlq,Bool.and_eq_true,Bool.not_eq_true']at h;obtain⟨⟨⟨⟨h1,h2⟩,h3⟩,h4⟩,h5⟩:=h;have hn:f.name≠ "_" :=by simpa using h1
    have ho:f.offset=i:=Nat.eq_of_beq_eq_true h2;have ih:=Zdy w d xs ys fs (i+1) us vs h5 (fun j v hj=>by have:=hx (j+1) v (by simpa using hj);rwa[show i+1+j=i+(j+1)by omega]) (fun j v hj=>by have:=hy (j+1) v (by simpa using hj);rwa[show i+1+j=i+(j+1)by omega]);have ha:=hx 0 a rfl;have hb:=hy 0 b rfl;rw[Nat.add_zero,←ho]at ha hb;have hc:(Op.equalIn (d+1) f.type a b).run P w= .ok (eqC a b) w:=by
      unfold okC at h4;split at h4
      · split at h4
        · rename_i hu;obtain rfl:=of_decide_eq_true h4;rw[run_equalIn_int w d f.type _ _ _ _ hu];rfl
        · cases h4
      · split at h4
        · rename_i hu;rw[run_equalIn_bool' w d f.type _ _ hu];rfl
        · cases h4
      · cases h4
    have he:Zk8 (a::us) (b::vs)=(eqC a b&&Zk8 us vs):=by
      cases us with
      | nil=>cases vs with
        |nil=>simp[Zk8]
        |cons b' vs=>cases fs<;>simp[Zlq]at h5
      |cons a' us=>cases vs<;>simp[Zk8]
    rw[Op.eqFields,if_pos hn,he];simp only[Sem.run_bind,run_part_plain w h3 ha,run_part_plain w h3 hb,Result.andThen_ok,hc];cases eqC a b
    · simp
    · simp[ih]
theorem ZgO {P:Program}(w:World)(t:TypeId)(x y:Operand)(us vs:List Value)(n:Bool)(b:Bool)(hg:P.eqGuardType P.depth t=false)(hu:P.underlying t=some (.struct (P.fieldsOf t)))(hs:P.stoodInHeld t=false)(hok:Zlq P 0 (P.fieldsOf t).toList us vs=true)(hb:Zk8 us vs=b):
  (do eqGuard (if n then .neq else .eql) t x y (.agg us.toArray) (.agg vs.toArray);binOp (if n then .neq else .eql) t (.agg us.toArray) (.agg vs.toArray):Sem Value).run P w= .ok (.bool (if n then !b else b)) w:=by
 have h:(Op.equalIn 10000 t (.agg us.toArray) (.agg vs.toArray)).run P w= .ok b w:=by
  rw[run_equalIn_struct w 9999 _ _ _ hu hs,←hb];exact Zdy w 9998 _ _ _ 0 us vs hok (fun j v hj=>by simpa using hj) (fun j v hj=>by simpa using hj)
 rw[Sem.run_bind,run_eqGuard_agg w _ _ _ _ _ _ hg];simp only[Result.andThen_ok];cases n
 ·simp only[Bool.false_eq_true,if_false];rw[run_eql_struct,h];rfl
 ·simp only[if_true];rw[run_neq_struct,h];rfl
section
variable {P :Program}{n:Nat}{L:List (Nat×Value)}{c:Code}
theorem eqY {S:World→Prop}{i:Nat}(ng:Bool)(t t':TypeId)(x y:Operand)(us vs:List Value)(b:Bool)(d:Nat)(hg:∀rest,Zcc n c i L rest=true:=by intro _;kernel_rfl)(hd:(Za5 c i).dst=some d:=by kernel_rfl)(hop:(Za5 c i).op= .binOp (if ng then .neq else .eql) t x y t':=by kernel_rfl)
  (hx:∀rest,ZaD L rest x= .agg us.toArray:=by intro _;kernel_rfl) (hy:∀rest,ZaD L rest y= .agg vs.toArray:=by intro _;kernel_rfl) (h1:P.eqGuardType P.depth t=false:=by kernel_rfl) (hu:P.underlying t=some (.struct (P.fieldsOf t)):=by kernel_rfl) (hs:P.stoodInHeld t=false:=by kernel_rfl) (hok:Zlq P 0 (P.fieldsOf t).toList us vs=true:=by kernel_rfl) (hb:Zk8 us vs=b:=by kernel_rfl):Yld P n L S c i (some d) (.bool (if ng then !b else b)):=
 ZoQ _ t t' x y _ _ _ (some d) hg hd hop hx hy fun w=>ZgO w t x y us vs ng b h1 hu hs hok hb
theorem Zq8 {S:World→Prop}{i:Nat}(t t':TypeId)(x y:Operand)(us vs:List Value)(b:Bool)(d:Nat)(hg:∀rest,Zcc n c i L rest=true:=by intro _;kernel_rfl)(hd:(Za5 c i).dst=some d:=by kernel_rfl)(hop:(Za5 c i).op= .binOp .eql t x y t':=by kernel_rfl)
  (hx:∀rest,ZaD L rest x= .agg us.toArray:=by intro _;kernel_rfl) (hy:∀rest,ZaD L rest y= .agg vs.toArray:=by intro _;kernel_rfl) (h1:P.eqGuardType P.depth t=false:=by kernel_rfl) (hu:P.underlying t=some (.struct (P.fieldsOf t)):=by kernel_rfl) (hs:P.stoodInHeld t=false:=by kernel_rfl) (hok:Zlq P 0 (P.fieldsOf t).toList us vs=true:=by kernel_rfl) (hb:Zk8 us vs=b:=by kernel_rfl):Yld P n L S c i (some d) (.bool b):=eqY false t t' x y us vs b d hg hd hop hx hy h1 hu hs hok hb
theorem Zsx {S:World→Prop}{i:Nat}(t t':TypeId)(x y:Operand)(us vs:List Value)(b:Bool)(d:Nat)(hg:∀rest,Zcc n c i L rest=true:=by intro _;kernel_rfl)(hd:(Za5 c i).dst=some d:=by kernel_rfl)(hop:(Za5 c i).op= .binOp .neq t x y t':=by kernel_rfl)
  (hx:∀rest,ZaD L rest x= .agg us.toArray:=by intro _;kernel_rfl) (hy:∀rest,ZaD L rest y= .agg vs.toArray:=by intro _;kernel_rfl) (h1:P.eqGuardType P.depth t=false:=by kernel_rfl) (hu:P.underlying t=some (.struct (P.fieldsOf t)):=by kernel_rfl) (hs:P.stoodInHeld t=false:=by kernel_rfl) (hok:Zlq P 0 (P.fieldsOf t).toList us vs=true:=by kernel_rfl) (hb:Zk8 us vs=b:=by kernel_rfl):Yld P n L S c i (some d) (.bool (!b)):=eqY true t t' x y us vs b d hg hd hop hx hy h1 hu hs hok hb
end
end Go.Proofs.YtfhkgohokbkgiaaGreatDoor.G
namespace Go.Proofs.YtfhkgohokbkgiaaGreatDoor
open Go.RowKit G Tryz
theorem Zmy {ι:Type}{P:Program}{f:FuncId}{vs:Array Value}{rv:ι→Value}{X:SP}{Z:ι→SP}{H:List SP}(j:Nat)(hj:H[j]? =some X)(h:∀w,Sat w (X::H.eraseIdx j)→Calls P f vs w (Ret rv fun x=>Z x::X::H.eraseIdx j)):∀w,Sat w H→Calls P f vs w (Ret rv fun x=>Z x::H):=fun w hs=>
 (h w (hs.pick j hj)).mono fun e w' ⟨p,he,G,h1,h2,h3⟩=>⟨p,he,G,h1,h2,SatF.unpick j hj h3⟩
def wz (q:BA):WS:=w0 (bC q)
def act (q:BA)(z:WS)(tick:Int)(d:Nat)(op a b:Int):WS:=(Zbt (bC q) z tick d 1 op a b).2
def kw1 (q:BA):WS:=act q (wz q) 0 0 1 0 3
def kw2 (q:BA):WS:=act q (kw1 q) 1 0 11 3 77
def kw3 (q:BA):WS:=act q (kw2 q) 2 3 12 0 0
def kw4 (q:BA):WS:=act q (kw3 q) 3 3 10 0 0
def kw5 (q:BA):WS:=act q (kw4 q) 4 0 10 3 0
def kw6 (q:BA):WS:=act q (kw5 q) 5 0 99 0 0
theorem ZsV (q:BA):Zbt (bC q) (wz q) 0 0 1 0 0 0=(((0,0,0),false),wz q):=rfl
theorem ZsU (q:BA):Zbt (bC q) (wz q) 0 0 1 1 0 3=(((0,2,0),true),kw1 q):=by kernel_rfl
theorem ZsT (q:BA):Zbt (bC q) (kw1 q) 1 0 1 11 3 77=(((0,0,0),true),kw2 q):=by kernel_rfl
theorem ZsS (q:BA):Zbt (bC q) (kw2 q) 2 3 1 12 0 0=(((0,0,77),true),kw3 q):=by kernel_rfl
theorem ZsR (q:BA):Zbt (bC q) (kw3 q) 3 3 1 10 0 0=(((0,1,100),true),kw4 q):=by kernel_rfl
theorem ZsQ (q:BA):Zbt (bC q) (kw4 q) 4 0 1 10 3 0=(((15,0,0),true),kw5 q):=by kernel_rfl
theorem ZsP (q:BA):Zbt (bC q) (kw5 q) 5 0 1 99 0 0=(((16,0,0),true),kw6 q):=by kernel_rfl
theorem ZsO (q:BA):(ZbJ (kw6 q) 0).r.l.length=2:=by kernel_rfl
theorem ZdI {q:BA}{z:WS}{m:Int}(h:WdB z m)(hm:0≤m)(tick:Int)(d:Nat)(op a b:Int):WdB (act q z tick d op a b) (m+1):=Zo5 h hm tick d 1 op a b
theorem ZpE (q:BA):WdB (wz q) 2:=Zta (bC q)
section
variable (H :List SP)(wb:Nat)(q:BA)(P:WP)(z:WS)
theorem ZqU (hE:EK H)(hk:KC H (bC q))(m:Int)(hB:WdB z m)(hm:m<100000)(tick:Int)(d:Nat)(hd:d<4)(th op a b:Int){r:Int×Int×Int}{t:Bool}{z':WS}(hr:Zbt (bC q) z tick d th op a b=((r,t),z')):U0 14 #[vp wb,vi tick,vi d,vi th,.agg #[vi op,vi a,vi b]] (wdS wb (bC q) P z::H) (.tuple #[.agg #[vi r.1,vi r.2.1,vi r.2.2],.bool t]) (wdS wb (bC q) P z'::H):=by
 have h:=Zo4 H wb (bC q) P z hE hk m hB hm tick th op a b d hd;rw[hr]at h;exact h
theorem bNew (hk:KC H (bC q)):U1 13 #[.agg #[vi 8,vi 2,.slice (some ⟨q.ps,0,none⟩) 2 2,.slice (some ⟨q.ds,0,none⟩) 4 4]] H (ι:=Nat×WP) (fun p=> .pointer (some ⟨p.1,0,none⟩)) fun p=>wdS p.1 (bC q) p.2 (wz q)::H:=ZgH H (bC q) hk (by show 4≤6;omega)
theorem Zs4 (d:Nat)(hd:d<4):∀v,Sat v (wdS wb (bC q) P z::H)→∃p x,P.s[d]? =some p∧z.s[d]? =some x:=Zjl (wb:=wb) (c:=bC q) (P:=P) (w:=z) 0 rfl hd
end
theorem ZqE (H:List SP)(hE:EK H):US 11 #[] H (.bool true):=by
 refine eG func11 118 ?_;refine Xq (Xg 1 (Xe [(0,.bool false)] ?_ 1));refine Xq (Xg 3 (Xs (Xa (some 16) _ (ZhV _)) (fun(q:BA)=>?_) 2));refine Xs (Xa (some 17) _ (ZgH _ (bC q) (bKC q _) (by show 4≤6;omega))) (fun(p:Nat×WP)=>?_) 1;refine PT.know (Zs4 (bS q::H) p.1 q p.2 (wz q) 1 (by omega)) ?_;rintro⟨p1,x1,hp1,hx1⟩;refine Ae 1 ?_;refine Xq (Xq (Xg 17 (Ar ?_ 13 4)));refine Xs (Xa (some 22) _ (ZdN _ p.1 (bC q) p.2 (wz q) 1 p1 hp1)) (fun _=>?_) 12;refine Ar ?_ 8 4;refine Xs (Xa (some 27) _ (Zc5 _ p.1 (bC q) p.2 (wz q))) (fun _=>?_) 7;refine Ar ?_ 3 4;refine Xs (Xa (some 32) _ (ZdA _ p.1 (bC q) p.2 (wz q))) (fun _=>?_) 2;refine Ae 2 ?_;refine Xc false (fun h=>by cases h) (fun _=>?_);refine Xk (Xq (Xg 9 (Ar ?_ 7 2)));refine Xs (Xa (some 38) _ (ZqU _ p.1 q p.2 (wz q) hE.up (bKC q _) 2 (ZpE q) (by omega) 0 0 (by omega) 1 0 0 0 (ZsV q))) (fun _=>?_) 6;refine Ar ?_ 3 3;refine Xs (Xn 31 [vi 0,vi 0,vi 0] (some 2) (fun b=>vp b)) (fun b1=>?_) 2;refine Xs (Xz [(0,vi 0),(1,vi 0),(2,vi 0)]) (fun _=>?_) 1;refine Ae 1 ?_;refine Xq (Xg 9 (Ar ?_ 7 2));refine Xs (Xa (some 44) _ (Zak 1 rfl (ZqU _ p.1 q p.2 (wz q) (by repeat' first|exact hE|apply EK.up) (by repeat' first|exact bKC q _|apply KC.up) 2 (ZpE q) (by omega) 0 0 (by omega) 1 1 0 3 (ZsU q)))) (fun _=>?_) 6;refine Ar ?_ 3 3;refine Xs (Xn 31 [vi 0,vi 0,vi 0] (some 4) (fun b=>vp b)) (fun b2=>?_) 2;refine Xs (Xz [(0,vi 0),(1,vi 2),(2,vi 0)]) (fun _=>?_) 1;refine Ae 1 ?_;refine Xq (Xg 9 (Ar ?_ 7 2));refine Xs (Xa (some 50) _ (Zak 2 rfl (ZqU _ p.1 q p.2 (kw1 q) (by repeat' first|exact hE|apply EK.up) (by repeat' first|exact bKC q _|apply KC.up) 3 (ZdI (ZpE q) (by omega) 0 0 1 0 3) (by omega) 1 0 (by omega) 1 11 3 77 (ZsT q)))) (fun _=>?_) 6;refine Ar ?_ 3 3;refine Xs (Xn 31 [vi 0,vi 0,vi 0] (some 6) (fun b=>vp b)) (fun b3=>?_) 2;refine Xs (Xz [(0,vi 0),(1,vi 0),(2,vi 0)]) (fun _=>?_) 1;refine Ae 1 ?_;refine Xq (Xg 9 (Ar ?_ 7 2));refine Xs (Xa (some 56) _ (Zak 3 rfl (ZqU _ p.1 q p.2 (kw2 q) (by repeat' first|exact hE|apply EK.up) (by repeat' first|exact bKC q _|apply KC.up) 4 (ZdI (ZdI (ZpE q) (by omega) 0 0 1 0 3) (by omega) 1 0 11 3 77) (by omega) 2 3 (by omega) 1 12 0 0 (ZsS q)))) (fun _=>?_) 6;refine Ar ?_ 3 3;refine Xs (Xn 31 [vi 0,vi 0,vi 0] (some 8) (fun b=>vp b)) (fun b4=>?_) 2;refine Xs (Xz [(0,vi 0),(1,vi 0),(2,vi 77)]) (fun _=>?_) 1;refine Ae 1 ?_;refine Xq (Xg 9 (Ar ?_ 7 2));refine Xs (Xa (some 62) _ (Zak 4 rfl (ZqU _ p.1 q p.2 (kw3 q) (by repeat' first|exact hE|apply EK.up) (by repeat' first|exact bKC q _|apply KC.up) 5 (ZdI (ZdI (ZdI (ZpE q) (by omega) 0 0 1 0 3) (by omega) 1 0 11 3 77) (by omega) 2 3 12 0 0) (by omega) 3 3 (by omega) 1 10 0 0 (ZsR q)))) (fun _=>?_) 6;refine Ar ?_ 3 3;refine Xs (Xn 31 [vi 0,vi 0,vi 0] (some 10) (fun b=>vp b)) (fun b5=>?_) 2;refine Xs (Xz [(0,vi 0),(1,vi 1),(2,vi 100)]) (fun _=>?_) 1;refine Ae 1 ?_;refine Xq (Xg 9 (Ar ?_ 7 2))
 refine Xs (Xa (some 68) _ (Zak 5 rfl (ZqU _ p.1 q p.2 (kw4 q) (by repeat' first|exact hE|apply EK.up) (by repeat' first|exact bKC q _|apply KC.up) 6 (ZdI (ZdI (ZdI (ZdI (ZpE q) (by omega) 0 0 1 0 3) (by omega) 1 0 11 3 77) (by omega) 2 3 12 0 0) (by omega) 3 3 10 0 0) (by omega) 4 0 (by omega) 1 10 3 0 (ZsQ q)))) (fun _=>?_) 6;refine Ar ?_ 3 3;refine Xs (Xn 31 [vi 0,vi 0,vi 0] (some 12) (fun b=>vp b)) (fun b6=>?_) 2;refine Xs (Xz [(0,vi 15),(1,vi 0),(2,vi 0)]) (fun _=>?_) 1;refine Ae 1 ?_;refine Xq (Xg 9 (Ar ?_ 7 2));refine Xs (Xa (some 74) _ (Zak 6 rfl (ZqU _ p.1 q p.2 (kw5 q) (by repeat' first|exact hE|apply EK.up) (by repeat' first|exact bKC q _|apply KC.up) 7 (ZdI (ZdI (ZdI (ZdI (ZdI (ZpE q) (by omega) 0 0 1 0 3) (by omega) 1 0 11 3 77) (by omega) 2 3 12 0 0) (by omega) 3 3 10 0 0) (by omega) 4 0 10 3 0) (by omega) 5 0 (by omega) 1 99 0 0 (ZsP q)))) (fun _=>?_) 6;refine Ar ?_ 3 3;refine Xs (Xn 31 [vi 0,vi 0,vi 0] (some 14) (fun b=>vp b)) (fun b7=>?_) 2;refine Xs (Xz [(0,vi 16),(1,vi 0),(2,vi 0)]) (fun _=>?_) 1;refine Ae 1 ?_;refine Xq (Xg 42 (Al [(⟨b2,0,none⟩,vi 0),(⟨b2,1,none⟩,vi 2),(⟨b2,2,none⟩,vi 0)] (hasC (ba 5) (hasC (ba 5) (hasC (ba 5) Zaa))) ?_ 34 8));refine Xs (Zav (Zq8 31 31 (.tmp 83) (.tmp 84) [.int .i64 0,.int .i64 2,.int .i64 0] [.int .i64 0,.int .i64 2,.int .i64 0] true 85)) (fun _=>?_) 33;refine Al [(⟨b3,0,none⟩,vi 0),(⟨b3,1,none⟩,vi 0),(⟨b3,2,none⟩,vi 0)] (hasC (ba 4) (hasC (ba 4) (hasC (ba 4) Zaa))) ?_ 29 4;refine Xs (Zav (Zq8 31 31 (.tmp 88) (.tmp 89) [.int .i64 0,.int .i64 0,.int .i64 0] [.int .i64 0,.int .i64 0,.int .i64 0] true 90)) (fun _=>?_) 28;refine Al [(⟨b4,0,none⟩,vi 0),(⟨b4,1,none⟩,vi 0),(⟨b4,2,none⟩,vi 77)] (hasC (ba 3) (hasC (ba 3) (hasC (ba 3) Zaa))) ?_ 24 4;refine Xs (Zav (Zq8 31 31 (.tmp 93) (.tmp 94) [.int .i64 0,.int .i64 0,.int .i64 77] [.int .i64 0,.int .i64 0,.int .i64 77] true 95)) (fun _=>?_) 23;refine Al [(⟨b5,0,none⟩,vi 0),(⟨b5,1,none⟩,vi 1),(⟨b5,2,none⟩,vi 100)] (hasC (ba 2) (hasC (ba 2) (hasC (ba 2) Zaa))) ?_ 19 4;refine Xs (Zav (Zq8 31 31 (.tmp 98) (.tmp 99) [.int .i64 0,.int .i64 1,.int .i64 100] [.int .i64 0,.int .i64 1,.int .i64 100] true 100)) (fun _=>?_) 18;refine Al [(⟨b6,0,none⟩,vi 15),(⟨b6,1,none⟩,vi 0),(⟨b6,2,none⟩,vi 0)] (hasC (ba 1) (hasC (ba 1) (hasC (ba 1) Zaa))) ?_ 14 4;refine Xs (Zav (Zq8 31 31 (.tmp 103) (.tmp 104) [.int .i64 15,.int .i64 0,.int .i64 0] [.int .i64 15,.int .i64 0,.int .i64 0] true 105)) (fun _=>?_) 13;refine Al [(⟨b7,0,none⟩,vi 16),(⟨b7,1,none⟩,vi 0),(⟨b7,2,none⟩,vi 0)] (hasC (ba 0) (hasC (ba 0) (hasC (ba 0) Zaa))) ?_ 9 4;refine Xs (Zav (Zq8 31 31 (.tmp 108) (.tmp 109) [.int .i64 16,.int .i64 0,.int .i64 0] [.int .i64 16,.int .i64 0,.int .i64 0] true 110)) (fun _=>?_) 8;refine Ar ?_ 5 3
 refine Xs (Xa (some 114) _ ((by have h:=Zmy (H:=(blk b7 31 [.int .i64 16,.int .i64 0,.int .i64 0]::blk b6 31 [.int .i64 15,.int .i64 0,.int .i64 0]::blk b5 31 [.int .i64 0,.int .i64 1,.int .i64 100]::blk b4 31 [.int .i64 0,.int .i64 0,.int .i64 77]::blk b3 31 [.int .i64 0,.int .i64 0,.int .i64 0]::blk b2 31 [.int .i64 0,.int .i64 2,.int .i64 0]::blk b1 31 [.int .i64 0,.int .i64 0,.int .i64 0]::wdS p.1 (bC q) p.2 (kw6 q)::bS q::H)) 7 rfl (ZfE _ p.1 (bC q) p.2 (kw6 q) 0 (by show 0<4;omega));rw[ZsO]at h;exact h))) (fun(r:AN)=>?_) 4;refine Ae 4 ?_;refine Xv (Y0 (.bool true) (fun w hs=>?_));exact⟨(),rfl,Sat.right (R:=[_,_,_,_,_,_,_,_,_,_]) hs⟩
end Go.Proofs.YtfhkgohokbkgiaaGreatDoor
