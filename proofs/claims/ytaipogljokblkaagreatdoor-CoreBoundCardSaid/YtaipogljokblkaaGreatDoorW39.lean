/- Core: BdA, BdB, BdC, BdD, BdE. -/
import Derived.Test.YtaipogljokblkaaGreatDoorW37
import Derived.Test.YtaipogljokblkaaGreatDoorW01
set_option linter.all false
set_option maxRecDepth 100000
set_option maxHeartbeats 8000000
namespace Go.Proofs.YtaipogljokblkaaGreatDoor
open Go Go.RowKit
set_option linter.unusedSimpArgs false
set_option linter.unusedVariables false
set_option linter.unusedSectionVars false
structure NB(M:MR):Prop where
 eng:M.R.Aa=2
 m1:1<=M.R.most
 t1:1<=M.R.Ac
 Iu:M.R.step=0\/M.R.step=1\/M.R.step=2\/M.R.step=4\/M.R.step=5\/M.R.step=7\/M.R.step=13\/M.R.step=16
 len:(M.ns.length:Int)<=M.R.most+M.R.Ac*9
 calm:M.R.step≠13->M.R.step≠16->(M.ns.length:Int)<M.R.most\/(M.ns.length:Int)<=M.R.Ac*9
 rN:M.R.step=16->(M.ns.length:Int)<=M.ds.length+M.R.Ac*9
section
variable{st:Int}{n t:Nat}{M:MR}{R R':Xb}{c:Xf}{x:Xj}
def R9(R':Xb):Prop:=R'.step=0\/R'.step=1\/R'.step=2\/R'.step=4\/R'.step=5\/R'.step=7
theorem NB.out(h:NB M)(h13:M.R.step≠13)(h16:M.R.step≠16)(hd:Hd M.R R')(hs:R9 R'):NB (M.wrap R'):=by
 obtain⟨_,b,d,e⟩:=hd;have hn:(M.wrap R').ns=M.ns:=by unfold MR.wrap;cases R'.step==0<;>rfl
 refine⟨?_,?_,?_,?_,?_,?_,?_⟩<;>rw[Cl]
 ·rw[d];exact h.eng
 ·rw[e];exact h.m1
 ·rw[b];exact h.t1
 ·rcases hs with h|h|h|h|h|h<;>simp[h]
 ·rw[hn,e,b];exact h.len
 ·intro _ _;rw[hn,e,b];exact h.calm h13 h16
 ·intro e16;rcases hs with h|h|h|h|h|h<;>omega
theorem vD(ss:List Xd):∀ns:List Xn,(ns.map (·.ref.sl)).Nodup->(ns.filter (Cz ss)).length<=ss.length:=by
 intro ns hd;have h1:((ns.filter (Cz ss)).map (·.ref.sl)).Nodup:=hd.sublist (List.filter_sublist.map _);have h2:∀a∈(ns.filter (Cz ss)).map (·.ref.sl),a∈ss.map (·.sl):=by
  intro a ha;obtain⟨m,hm,rfl⟩:=List.mem_map.1 ha;have hk:=(List.mem_filter.1 hm).2;unfold Cz at hk;obtain⟨w,hw,e⟩:=List.any_eq_true.1 hk;exact List.mem_map.2 ⟨w,hw,by simpa using e⟩
 have h3:∀(l k:List Int),l.Nodup->(∀a∈l,a∈k)->l.length<=k.length:=by
  intro l;induction l with
  |nil=>intro k _ _;exact Nat.zero_le _
  |cons a l ih=>
   intro k hd hs;have ha:=hs a (List.mem_cons_self ..);have hl:=ih (k.erase a) (List.nodup_cons.1 hd).2 λb hb=>by
    have hb1:=hs b (List.mem_cons_of_mem _ hb);have hne:b≠a:=λe=>(List.nodup_cons.1 hd).1 (e▸hb);exact(List.mem_erase_of_ne hne).2 hb1
   have:=List.length_erase_of_mem ha;have hp:0<k.length:=List.length_pos_of_mem ha;simp only[List.length_cons];omega
 have:=h3 _ _ h1 h2;simpa using this
theorem SN(p:Xn->Bool):∀l:List Xn,l.length=(l.filter λm=>!p m).length+(l.filter p).length:=by
 intro l;induction l with
 |nil=>rfl
 |cons a l ih=>
  cases hp:p a<;>simp[List.filter_cons,hp]<;>omega
theorem aK(h2:M.R.Aa=2)(hm:1<=M.R.most)(ht:1<=M.R.Ac)(hl:(M.ns.length:Int)<=M.ds.length+M.R.Ac*9)(hb:(M.ns.length:Int)<=M.R.most+M.R.Ac*9):NB M.reap:=by
 unfold MR.reap;cases hd:M.ds with
 |nil=>
  rw[hd] at hl;refine NB.mk ?_ ?_ ?_ ?_ ?_ ?_ ?_<;>(try rw[Cl])
  ·exact h2
  ·exact hm
  ·exact ht
  ·exact Or.inl rfl
  ·exact hb
  ·intro _ _;exact Or.inr (show(M.ns.length:Int)<=M.R.Ac*9 by simpa using hl)
  ·intro e;have e:(0:Int)=16:=e;omega
 |cons d r=>
  simp only;refine NB.mk h2 hm ht (by simp[Xb.ask]) hb (λ_ e=>absurd rfl e) (λ_=>?_);show(M.ns.length:Int)<=((d::r).length:Nat)+M.R.Ac*9;rw[←hd];exact hl
theorem aC(M:MR):M.reap.ns=M.ns:=by
 unfold MR.reap;cases M.ds with
 |nil=>rfl
 |cons d r=>rfl
theorem uQ(h2:M.R.Aa=2)(hm:1<=M.R.most)(ht:1<=M.R.Ac)(hb:(M.ns.length:Int)<=M.R.most+M.R.Ac*9)(hn:(M.ns.map (·.ref.sl)).Nodup)(hs:(M.ss.length:Int)<=M.R.Ac*9):NB M.sift:=by
 have e:M.stays=Cz M.ss:=by unfold MR.stays;simp only[h2];rfl
 refine aK (M:={M with ds:=M.ns.filter λn=>!M.stays n}) h2 hm ht ?_ hb;show(M.ns.length:Int)<=((M.ns.filter λn=>!M.stays n).length:Nat)+M.R.Ac*9;rw[e];have h1:=SN (Cz M.ss) M.ns;have h2:=vD M.ss M.ns hn;omega
theorem aJ(h2:M.R.Aa=2)(hm:1<=M.R.most)(ht:1<=M.R.Ac)(t6:M.R.Ac<=6)(hb:(M.ns.length:Int)<=M.R.most+M.R.Ac*9):NB M.scan/\M.scan.ns=M.ns:=by
 have e:M.R.scan=(Xb.load {M.R with index:=0} 13 ⟨0,0,wr (wr (25+wr (wr (Int.tdiv 0 9)*9))+Int.tmod 0 9)⟩):=by
  unfold Xb.scan;rw[show(M.R.Aa==1)=false from by rw[h2];rfl,show(M.R.Aa==4)=false from by rw[h2];rfl];show(M.R.look 0).1=_;unfold Xb.look;have:decide (wr (M.R.Ac*9)<=0)=false:=by
   rw[decide_eq_false_iff_not,Iy Zo Zo];omega
  rw[show M.R.Az=true from by unfold Xb.Az;rw[h2];rfl,this];rfl
 unfold MR.scan;rw[e];have hw:(M.wrap (Xb.load {M.R with index:=0} 13 ⟨0,0,wr (wr (25+wr (wr (Int.tdiv 0 9)*9))+Int.tmod 0 9)⟩))=⟨Xb.load {M.R with index:=0} 13 ⟨0,0,wr (wr (25+wr (wr (Int.tdiv 0 9)*9))+Int.tmod 0 9)⟩,M.ns,M.ds,M.ss⟩:=rfl;rw[hw];exact⟨NB.mk h2 hm ht (by simp[Xb.load,Xb.ask]) hb (λe=>absurd rfl e) (λe=>by have e:(13:Int)=16:=e;omega),rfl⟩
theorem oG(h2:M.R.Aa=2)(hm:1<=M.R.most)(ht:1<=M.R.Ac)(t6:M.R.Ac<=6)(hb:(M.ns.length:Int)<=M.R.most+M.R.Ac*9):NB M.noted/\M.noted.ns=M.ns:=by
 unfold MR.noted;cases hd:decide (M.R.most<=(M.ns.length:Int)) with
 |true=>exact aJ h2 hm ht t6 hb
 |false=>
  have hd:=of_decide_eq_false hd;exact⟨NB.mk h2 hm ht (Or.inl rfl) hb (λ_ _=>Or.inl (show(M.ns.length:Int)<M.R.most by omega)) (λe=>by have e:(0:Int)=16:=e;omega),rfl⟩
theorem Rc(R:Xb):∀l:List Int,Hd R (R.CD l)/\((R.CD l).step=0\/(R.CD l).step=4)
 |[]=>⟨⟨rfl,rfl,rfl,rfl⟩,Or.inl rfl⟩
 |i::r=>by
  unfold Xb.CD;cases wz (R.BM i) with
  |true=>exact Rc R r
  |false=>
   have h:=F6 {R with index:=i} 4 i .zero;exact⟨Hd.trans ⟨rfl,rfl,rfl,rfl⟩ h.1,Or.inr h.2.2.2.1⟩
theorem L3(R:Xb)(l:List Int):Hd R (R.CZ l)/\R9 (R.CZ l):=by
 unfold Xb.CZ;cases(R.CU&&!(!R.span.is&&(R.span.low==0&&R.span.IC==0))) with
 |true=>exact⟨⟨rfl,rfl,rfl,rfl⟩,Or.inr (Or.inr (Or.inl rfl))⟩
 |false=>
  cases R.Az with
  |true=>
   have h:=Rc R l;exact⟨h.1,h.2.elim Or.inl λh=>Or.inr (Or.inr (Or.inr (Or.inl h)))⟩
  |false=>exact⟨⟨rfl,rfl,rfl,rfl⟩,Or.inl rfl⟩
theorem gZ(R:Xb)(c:Xf)(he:R.Aa=2):Hd R (R.Aq c)/\R9 (R.Aq c):=by
 have hs:(R.A7 c).CU=false:=by show(R.Aa==4||R.Aa==5)=false;rw[he];rfl
 have hk:(R.A7 c).Az=true:=by show(R.Aa==2||R.Aa==3)=true;rw[he];rfl
 have hd:(R.A7 c).dating=false:=by show(R.Aa==3||R.Aa==5)=false;rw[he];rfl
 have ht:Hd R (R.A7 c):=⟨rfl,rfl,rfl,rfl⟩;unfold Xb.Aq;simp only;cases h1:c.kind==1 with
 |true=>exact⟨by unfold Xb.enter;rw[hs];exact⟨rfl,rfl,rfl,rfl⟩,by unfold Xb.enter;rw[hs];exact Or.inl rfl⟩
 |false=>
  cases h2:c.kind==2 with
  |true=>exact⟨ht.trans (L3 _ _).1,(L3 _ _).2⟩
  |false=>
   cases h3:c.kind==3 with
   |true=>exact⟨⟨rfl,rfl,rfl,rfl⟩,Or.inr (Or.inl rfl)⟩
   |false=>
    cases h4:c.kind==4 with
    |true=>exact⟨⟨rfl,rfl,rfl,rfl⟩,Or.inr (Or.inl rfl)⟩
    |false=>
     cases h5:c.kind==5 with
     |true=>exact⟨⟨rfl,rfl,rfl,rfl⟩,Or.inr (Or.inl rfl)⟩
     |false=>
      cases h6:c.kind==6 with
      |true=>exact⟨⟨rfl,rfl,rfl,rfl⟩,Or.inr (Or.inr (Or.inr (Or.inr (Or.inl rfl))))⟩
      |false=>
       cases h7:c.kind==7 with
       |true=>
        show Hd R ((R.A7 c).hold c.i c.j)/\R9 ((R.A7 c).hold c.i c.j);unfold Xb.hold;cases(R.A7 c).Az&&!rX ((R.A7 c).BM c.i) ((R.A7 c).BM c.j) with
        |true=>
         have h:=F6 (R.A7 c) 2 c.i ((R.A7 c).BM c.j);exact⟨ht.trans h.1,Or.inr (Or.inr (Or.inl h.2.2.2.1))⟩
        |false=>exact⟨⟨rfl,rfl,rfl,rfl⟩,Or.inl rfl⟩
       |false=>
        cases h8:c.kind==8 with
        |true=>
         show Hd R (R.A7 c).alloc/\R9 (R.A7 c).alloc;unfold Xb.alloc;rw[hd];exact⟨⟨rfl,rfl,rfl,rfl⟩,Or.inr (Or.inl rfl)⟩
        |false=>exact⟨⟨rfl,rfl,rfl,rfl⟩,Or.inr (Or.inr (Or.inl rfl))⟩
theorem O7(h:NB M)(h0:M.R.step=0)(t6:M.R.Ac<=6):NB (M.Ag c)/\(M.Ag c).ns=(bif c.kind==10 then M.ns++[⟨AF c.A1,0,0⟩] else M.ns):=by
 have hc:=h.calm Zo Zo;have hm:=h.m1;have ht:=h.t1;unfold MR.Ag;cases h10:c.kind==10 with
 |true=>
  show NB (MR.retire ⟨M.R.A7 c,M.ns,[],[]⟩)/\(MR.retire ⟨M.R.A7 c,M.ns,[],[]⟩).ns=M.ns++[⟨AF c.A1,0,0⟩];unfold MR.retire;rw[show((MR.mk (M.R.A7 c) M.ns [] []).R.Aa==2)=true from by show(M.R.Aa==2)=true;rw[h.eng];rfl];refine oG (M:=⟨M.R.A7 c,M.ns++[⟨AF c.A1,0,0⟩],[],[]⟩) h.eng hm ht t6 ?_;show(((M.ns++[(⟨AF c.A1,0,0⟩:Xn)]).length:Nat):Int)<=M.R.most+M.R.Ac*9;simp;omega
 |false=>
  cases h11:c.kind==11 with
  |true=>exact aJ (M:=⟨M.R.A7 c,M.ns,[],[]⟩) h.eng hm ht t6 h.len
  |false=>
   obtain⟨⟨_,b,d,e⟩,hs⟩:=gZ M.R c h.eng;refine⟨NB.mk (by show(M.R.Aq c).Aa=2;rw[d];exact h.eng) (by show 1<=(M.R.Aq c).most;rw[e];exact hm) (by show 1<=(M.R.Aq c).Ac;rw[b];exact ht) ?_ ?_ ?_ ?_,rfl⟩
   ·rcases hs with h|h|h|h|h|h<;>(show(M.R.Aq c).step=0\/_;simp[h])
   ·show(M.ns.length:Int)<=(M.R.Aq c).most+(M.R.Aq c).Ac*9;rw[e,b];exact h.len
   ·intro _ _;show(M.ns.length:Int)<(M.R.Aq c).most\/(M.ns.length:Int)<=(M.R.Aq c).Ac*9;rw[e,b];exact hc
   ·intro e16;have e16:(M.R.Aq c).step=16:=e16;rcases hs with h|h|h|h|h|h<;>omega
theorem uP(h:NB M)(hb:AD n t M)(hr:LZ st n M c)(h0:M.R.step≠0)(hn:(M.ns.map (·.ref.sl)).Nodup):
  NB (M.As x)/\((M.As x).ns=M.ns/\M.R.step≠16\/∃d∈M.ns,M.R.AY=⟨5,.zero,d.ref,.zero⟩/\(M.As x).ns=M.ns.erase d/\M.R.step=16):=by
 have hw:∀R',(M.wrap R').ns=M.ns:=λR'=>by unfold MR.wrap;cases R'.step==0<;>rfl
 rcases h.Iu with hs|hs|hs|hs|hs|hs|hs|hs
 ·exact absurd hs h0
 ·have e:M.As x=M.wrap (M.R.finish x):=by unfold MR.As;simp only[hs];rfl
  rw[e];exact⟨h.out Zo Zo ⟨rfl,rfl,rfl,rfl⟩ (Or.inl rfl),Or.inl ⟨hw _,by omega⟩⟩
 ·have e:M.As x=M.wrap M.R.done:=by unfold MR.As;simp only[hs];rfl
  rw[e];exact⟨h.out Zo Zo ⟨rfl,rfl,rfl,rfl⟩ (Or.inl rfl),Or.inl ⟨hw _,by omega⟩⟩
 ·have e:M.As x=M.wrap (M.R.CZ (([0,1,2,3,4,5,6,7,8]:List Int).filter λn=>decide (M.R.index<n))):=by unfold MR.As;simp only[hs];rfl
  rw[e];exact⟨h.out Zo Zo (L3 _ _).1 (L3 _ _).2,Or.inl ⟨hw _,by omega⟩⟩
 ·have e:M.As x=M.wrap (M.R.Bz x):=by unfold MR.As;simp only[hs];rfl
  rw[e];have hq:Hd M.R (M.R.Bz x)/\R9 (M.R.Bz x):=by
   unfold Xb.Bz;simp only;rw[show Xb.dating {M.R with word:=x.word}=false from by show(M.R.Aa==3||M.R.Aa==5)=false;rw[h.eng];rfl];simp only[cond_false];cases(M.R.Aa==2&&(!(x.word.sl==0)&&!RC (Xb.BM {M.R with word:=x.word} M.R.call.i) x.word)) with
   |true=>
    have h:=F6 {M.R with word:=x.word} 7 M.R.call.i (AF x.word);exact⟨Hd.trans ⟨rfl,rfl,rfl,rfl⟩ h.1,Or.inr (Or.inr (Or.inr (Or.inr (Or.inr h.2.2.2.1))))⟩
   |false=>exact⟨⟨rfl,rfl,rfl,rfl⟩,Or.inl rfl⟩
  exact⟨h.out Zo Zo hq.1 hq.2,Or.inl ⟨hw _,by omega⟩⟩
 ·have e:M.As x=M.wrap (M.R.load 5 M.R.call.A2):=by unfold MR.As;simp only[hs];rfl
  rw[e];exact⟨h.out Zo Zo ⟨rfl,rfl,rfl,rfl⟩ (Or.inr (Or.inr (Or.inr (Or.inr (Or.inl rfl))))),Or.inl ⟨hw _,by omega⟩⟩
 ·have e:M.As x=M.AG x:=by unfold MR.As;simp only[hs];rfl
  rw[e];have hi:=hr.s13 hs;have hx:M.R.index<M.R.Ac*9:=by
   have hl:VK M.R=M.R.Ac*9:=by unfold VK Xb.Az;rw[h.eng];rfl
   rcases hr.b.2.2 with⟨e,_⟩|⟨e,_⟩|⟨e,_⟩|⟨e,_⟩|⟨e,_⟩|⟨e,_⟩|⟨e,_⟩|⟨e,_⟩|⟨e,_⟩|⟨e,_⟩|⟨e,_⟩|⟨e,_⟩|⟨e,_,_,_,hl2⟩|⟨e,_⟩|⟨e,_⟩|⟨e,_⟩<;>omega
  unfold MR.AG;simp only;cases hl:(M.R.look (M.R.index+1)).2 with
  |true=>
   have e2:(M.R.look (M.R.index+1)).1=(Xb.load {M.R with index:=M.R.index+1} 13 ⟨0,0,wr (wr (25+wr (wr (Int.tdiv (M.R.index+1) 9)*9))+Int.tmod (M.R.index+1) 9)⟩):=by
    unfold Xb.look at hl ⊢;rw[show M.R.Az=true from by unfold Xb.Az;rw[h.eng];rfl] at hl ⊢;cases hq:decide (wr (M.R.Ac*9)<=M.R.index+1) with
    |true=>rw[hq] at hl;exact absurd hl Zs
    |false=>rfl
   rw[e2];exact⟨NB.mk h.eng h.m1 h.t1 (by simp[Xb.load,Xb.ask]) h.len (λe=>absurd rfl e) (λe=>by have e:(13:Int)=16:=e;omega),Or.inl ⟨rfl,by omega⟩⟩
  |false=>
   rw[show(!(M.R.Aa==4))=true from by rw[h.eng];rfl];refine⟨uQ (M:={M with ss:=M.ss++[x.word]}) h.eng h.m1 h.t1 h.len hn (by simp;omega),Or.inl ⟨?_,by omega⟩⟩;show(MR.sift _).ns=M.ns;unfold MR.sift;exact aC _
 ·obtain⟨d,r,hd,ha⟩:=hr.rN hs;have e:M.As x=M.DX:=by unfold MR.As;simp only[hs];rfl
  have hm:d∈M.ns:=hb.Qr.subset (by rw[hd];exact List.mem_cons_self ..);have hl:=h.rN hs;rw[hd] at hl;have hlen:=List.length_erase_of_mem hm;have hp:0<M.ns.length:=List.length_pos_of_mem hm;have hle:=h.len;rw[e];unfold MR.DX;rw[hd];simp only;refine⟨aK (M:=⟨{M.R with Bj:=wr (M.R.Bj+1)},M.ns.erase d,r,M.ss⟩) h.eng h.m1 h.t1 ?_ ?_,Or.inr ⟨d,hm,ha,?_,hs⟩⟩
  ·show((M.ns.erase d).length:Int)<=r.length+M.R.Ac*9;simp only[List.length_cons] at hl;omega
  ·show((M.ns.erase d).length:Int)<=M.R.most+M.R.Ac*9;omega
  ·exact aC _
end
inductive Tk where
 |free|fresh (k:Nat)|chain|Bi (k:Nat)|note (k:Nat)
 deriving DecidableEq
def Tk.Ax:Tk->Bool
 |.fresh _=>true
 |_=>false
def In(own:Int->Tk):Option Int->Prop
 |none=>True
 |some s=>own s=.chain
def NZ(lw:Option Int->Xd)(i:Option Int)(w:Xd):Option Int->Xd:=λj=>if j=i then w else lw j
structure Shape(own:Int->Tk)(lw:Option Int->Xd)(Ap:Int->Int):Prop where
 s1:∀i,In own i->(lw i).sl≠0->own (lw i).sl=.chain/\Ap (lw i).sl=(lw i).gn
 s2:∀i j,In own i->In own j->(lw i).sl≠0->(lw i).sl=(lw j).sl->i=j
section
variable{own:Int->Tk}{lw:Option Int->Xd}{Ap:Int->Int}{i:Option Int}{s:Int}{k:Nat}{w:Xd}
theorem Shape.Lk(h:Shape own lw Ap)(hi:In own i)(hs:own s=.fresh k)(hn:(lw (some s)).sl=(lw i).sl)(hg:(lw i).sl≠0->(lw (some s)).gn=(lw i).gn)(h0:s≠0)(hw:w.sl=s)(hv:w.gn=Ap s):
  Shape (Ah own s .chain) (NZ lw i w) Ap:=by
 obtain⟨s1,s2⟩:=h
 have hc:∀t,Ah own s .chain t=.chain↔(t=s\/own t=.chain):=λt=>by
  unfold Ah;by_cases e:t=s<;>simp[e,beq_iff_eq,show(t==s)=decide (t=s) from rfl]
 have hin:∀j,In (Ah own s .chain) j↔(j=some s\/In own j):=λj=>by
  cases j with
  |none=>simp[In]
  |some t=>simp only[In];rw[hc];simp
 have hi':i≠some s:=λe=>by rw[e] at hi;have hi:own s=.chain:=hi;rw[hs] at hi;cases hi
 have hl:∀j,NZ lw i w j=if j=i then w else lw j:=λ_=>rfl
 have hf:∀j,In own j->(lw j).sl≠s:=λj hj e=>by
  have:=(s1 j hj (by rw[e];exact h0)).1;rw[e,hs] at this;cases this
 constructor
 ·intro j hj hz;rw[hl] at hz ⊢;rw[hc];by_cases e:j=i
  ·simp only[e,if_true] at hz ⊢;exact⟨Or.inl hw,by rw[hw,hv]⟩
  ·simp only[e,if_false] at hz ⊢;rcases(hin j).1 hj with rfl|hj
   ·have:=s1 i hi (by rw[←hn];exact hz);exact⟨Or.inr (by rw[hn];exact this.1),by rw[hn,hg (by rw[←hn];exact hz)];exact this.2⟩
   ·exact⟨Or.inr (s1 j hj hz).1,(s1 j hj hz).2⟩
 ·intro j m hj hm hz he;rw[hl] at hz he;rw[hl] at he;by_cases e:j=i<;>by_cases f:m=i
  ·rw[e,f]
  ·simp only[e,f,if_true,if_false] at hz he;rcases(hin m).1 hm with rfl|hm
   ·exfalso;rw[hw,hn] at he;exact hf i hi he.symm
   ·exact absurd (he.symm.trans hw) (hf m hm)
  ·simp only[e,f,if_true,if_false] at hz he;rcases(hin j).1 hj with rfl|hj
   ·exfalso;rw[hw,hn] at he;exact hf i hi he
   ·exact absurd (he.trans hw) (hf j hj)
  ·simp only[e,f,if_false] at hz he;rcases(hin j).1 hj with rfl|hj<;>rcases(hin m).1 hm with rfl|hm
   ·rfl
   ·exact absurd (s2 i m hi hm (by rw[←hn];exact hz) (by rw[←hn];exact he)).symm f
   ·exact absurd (s2 j i hj hi hz (by rw[he,hn])) e
   ·exact s2 j m hj hm hz he
theorem Shape.unlink(h:Shape own lw Ap)(hi:In own i)(hs:(lw i).sl=s)(h0:s≠0)(hw:w.sl=(lw (some s)).sl)(hv:w.gn=(lw (some s)).gn):
  own s=.chain/\Ap s=(lw i).gn/\(i≠some s->Shape (Ah own s (.Bi k)) (NZ lw i w) Ap):=by
 obtain⟨s1,s2⟩:=h
 have hcs:=s1 i hi (by rw[hs];exact h0)
 rw[hs] at hcs
 refine⟨hcs.1,hcs.2,λhi'=>?_⟩
 have hc:∀t,Ah own s (.Bi k) t=.chain↔(t≠s/\own t=.chain):=λt=>by
  unfold Ah;by_cases e:t=s<;>simp[e,beq_iff_eq,show(t==s)=decide (t=s) from rfl]
 have hin:∀j,In (Ah own s (.Bi k)) j↔(j≠some s/\In own j):=λj=>by
  cases j with
  |none=>simp[In]
  |some t=>simp only[In];rw[hc];simp
 have hss:In own (some s):=hcs.1
 have hl:∀j,NZ lw i w j=if j=i then w else lw j:=λ_=>rfl
 have hr:∀j,In own j->j≠i->(lw j).sl≠s:=λj hj hne e=>hne (s2 j i hj hi (by rw[e];exact h0) (by rw[e,hs]))
 constructor
 ·intro j hj hz;obtain⟨hj1,hj2⟩:=(hin j).1 hj;rw[hl] at hz ⊢;rw[hc];by_cases e:j=i
  ·simp only[e,if_true] at hz ⊢;rw[hw,hv];rw[hw] at hz;have:=s1 (some s) hss hz;exact⟨⟨hr (some s) hss (Ne.symm hi'),this.1⟩,this.2⟩
  ·simp only[e,if_false] at hz ⊢;exact⟨⟨hr j hj2 e,(s1 j hj2 hz).1⟩,(s1 j hj2 hz).2⟩
 ·intro j m hj hm hz he;obtain⟨hj1,hj2⟩:=(hin j).1 hj;obtain⟨hm1,hm2⟩:=(hin m).1 hm;rw[hl] at hz he;rw[hl] at he;by_cases e:j=i<;>by_cases f:m=i
  ·rw[e,f]
  ·simp only[e,f,if_true,if_false] at hz he;rw[hw] at hz he;exact absurd (s2 (some s) m hss hm2 hz he).symm hm1
  ·simp only[e,f,if_true,if_false] at hz he;rw[hw] at he;exact absurd (s2 j (some s) hj2 hss hz he) hj1
  ·simp only[e,f,if_false] at hz he;exact s2 j m hj2 hm2 hz he
end
def lk(p:Pl):Option Int->Xd
 |none=>p.board 0
 |some s=>(p.slot s).cell 2
def Lv(p:Pl)(own:Int->Tk)(s g:Int):Prop:=own s≠.free/\(p.slot s).Ap=g
def PD(p:Pl)(own:Int->Tk)(w:Xd):Prop:=w.sl≠0->w.gn<=(p.slot w.sl).Ap/\(Lv p own w.sl w.gn->(own w.sl).Ax=false)
def Sn(c w:Xd):Prop:=w.tg<=c.tg/\(w.tg=c.tg->c=w)
structure Bs(a:Nat)(ce:Int->Xd->Xd->Prop)(p:Pl)(own:Int->Tk)(p':Pl)(own':Int->Tk):Prop where
 rt:∀r,0<=r->r<24->p'.board r=p.board r\/(p'.board r).tg=(p.board r).tg+1
 gm:∀s,(p.slot s).Ap<=(p'.slot s).Ap
 fr:∀s j,j≠a->(own s=.fresh j↔own' s=.fresh j)/\(own s=.fresh j->p'.slot s=p.slot s)
 pe:∀s j,j≠a->(own s=.Bi j↔own' s=.Bi j)
 no:∀s j,j≠a->own s=.note j->own' s=.note j
 Iv:∀s,own s≠.free->(own s).Ax=false->own' s≠.free->(p'.slot s).Ap=(p.slot s).Ap/\(own' s).Ax=false/\
  ∀f,(p'.slot s).cell f=(p.slot s).cell f\/(ce f ((p.slot s).cell f) ((p'.slot s).cell f)/\((p'.slot s).cell f).tg=((p.slot s).cell f).tg+1)
 new:∀s,own s=.free->own' s≠.free->(p'.slot s).Ap=(p.slot s).Ap+1
 Nu:∀s,own s=.fresh a->own' s≠.free->(p'.slot s).Ap=(p.slot s).Ap
 ch:∀s,own s=.chain->own' s≠.free
section
variable{a:Nat}{ce:Int->Xd->Xd->Prop}{p p':Pl}{own own':Int->Tk}{w c:Xd}{s g f t m:Int}{b:Bool}{k:Nat}
theorem pZ{x:Tk}(h:x.Ax=true):∃k,x=.fresh k:=by
 cases x with
 |fresh k=>exact⟨k,rfl⟩
 |_=>cases h
theorem Sn.refl:Sn c c:=⟨Int.le_refl _,λ_=>rfl⟩
theorem Sn.up{c':Xd}(h:Sn c w)(e:c'=c\/c'.tg=c.tg+1):Sn c' w:=by
 rcases e with rfl|e
 ·exact h
 ·exact⟨by have:=h.1;omega,λe'=>by have:=h.1;omega⟩
theorem Bs.root(h:Bs a ce p own p' own'){r:Int}(h0:0<=r)(h1:r<24)(hs:Sn (p.board r) w):Sn (p'.board r) w:=hs.up (h.rt r h0 h1)
theorem Bs.back(h:Bs a ce p own p' own')(hv:Lv p' own' s g)(hg:g<=(p.slot s).Ap):Lv p own s g:=by
 obtain⟨h1,h2⟩:=hv;have hm:=h.gm s;refine⟨λe=>?_,by omega⟩;have:=h.new s e h1;omega
theorem PD.A9(hp:PD p own w)(h:Bs a ce p own p' own'):PD p' own' w:=by
 intro h0;obtain⟨h1,h2⟩:=hp h0;refine⟨Int.le_trans h1 (h.gm _),λhv=>?_⟩;have hb:=h.back hv h1;exact(h.Iv _ hb.1 (h2 hb) hv.1).2.1
theorem Bs.seen(h:Bs a ce p own p' own')(hp:PD p own ⟨s,g,t,m,b⟩)(h0:s≠0)(hs:Lv p own s g->Sn ((p.slot s).cell f) w)(hv:Lv p' own' s g):Sn ((p'.slot s).cell f) w:=by
 obtain⟨h1,h2⟩:=hp h0;have hb:=h.back hv h1;exact(hs hb).up (((h.Iv _ hb.1 (h2 hb) hv.1).2.2 f).imp id λe=>e.2)
theorem Bs.fresh(h:Bs a ce p own p' own')(hk:k≠a)(hs:own s=.fresh k):own' s=.fresh k/\p'.slot s=p.slot s:=⟨((h.fr s k hk).1).1 hs,(h.fr s k hk).2 hs⟩
theorem Bs.Bi(h:Bs a ce p own p' own')(hk:k≠a)(hs:own s=.Bi k):own' s=.Bi k/\(p'.slot s).Ap=(p.slot s).Ap:=by
 have e:=(h.pe s k hk).1 hs;exact⟨e,(h.Iv s (by rw[hs];simp) (by rw[hs];rfl) (by rw[e];simp)).1⟩
theorem Bs.note(h:Bs a ce p own p' own')(hk:k≠a)(hs:own s=.note k):own' s=.note k/\(p'.slot s).Ap=(p.slot s).Ap:=by
 have e:=h.no s k hk hs;exact⟨e,(h.Iv s (by rw[hs];simp) (by rw[hs];rfl) (by rw[e];simp)).1⟩
end
theorem X2{α:Type}(f:Int->α)(i j:Int)(x:α):Ah f i x j=if j=i then x else f j:=by
 unfold Ah;by_cases e:j=i<;>simp[e,show(j==i)=decide (j=i) from rfl]
theorem Bs.of{p p':Pl}{own own':Int->Tk}{k:Nat}{ce:Int->Xd->Xd->Prop}(rt:∀r,0<=r->r<24->p'.board r=p.board r\/(p'.board r).tg=(p.board r).tg+1)(hg:∀t,(p'.slot t).Ap=(p.slot t).Ap)
  (hf:∀t j,j≠k->own t=.fresh j->p'.slot t=p.slot t)(hc:∀t,own t≠.free->(own t).Ax=false->∀f,(p'.slot t).cell f=(p.slot t).cell f\/(ce f ((p.slot t).cell f) ((p'.slot t).cell f)/\((p'.slot t).cell f).tg=((p.slot t).cell f).tg+1))
  (ho:∀t,own' t=own t\/((own t=.fresh k\/own t=.chain\/own t=.Bi k)/\(own' t=.chain\/own' t=.Bi k\/∃m,own' t=.note m))):Bs k ce p own p' own':=by
 refine⟨rt,λt=>by rw[hg];exact Int.le_refl _,λt j hj=>⟨?_,hf t j hj⟩,λt j hj=>?_,λt j hj hn=>?_,λt h1 h2 h3=>⟨hg t,?_,hc t h1 h2⟩,λt h1 h2=>?_,λt _ _=>hg t,λt h1=>?_⟩
 all_goals (rcases ho t with e|⟨e1,e2⟩)
 all_goals (first|rw[e]|skip)
 ·rcases e1 with e1|e1|e1<;>rcases e2 with e2|e2|⟨_,e2⟩<;>rw[e1,e2]<;>simp<;>exact λe=>hj e.symm
 ·rcases e1 with e1|e1|e1<;>rcases e2 with e2|e2|⟨_,e2⟩<;>rw[e1,e2]<;>simp<;>first|done|exact λe=>hj e.symm
 ·exact hn
 ·exfalso;rcases e1 with e1|e1|e1<;>(rw[e1] at hn;cases hn)
 ·exact h2
 ·rcases e2 with e2|e2|⟨_,e2⟩<;>rw[e2]<;>rfl
 ·exact absurd h1 (by rw[←e];exact h2)
 ·exfalso;rcases e1 with e1|e1|e1<;>(rw[e1] at h1;cases h1)
 ·rw[h1];simp
 ·rcases e2 with e2|e2|⟨_,e2⟩<;>rw[e2]<;>simp
theorem Shape.same{own own':Int->Tk}{lw lw':Option Int->Xd}{Ap gen':Int->Int}(h:Shape own lw Ap)(ho:∀s,own' s=.chain↔own s=.chain)(hl:∀i,In own i->lw' i=lw i)
  (hg:∀s,own s=.chain->gen' s=Ap s):Shape own' lw' gen':=by
 have hi:∀i,In own' i->In own i:=λi=>by
  cases i with
  |none=>exact id
  |some s=>exact(ho s).1
 constructor
 ·intro i h1 h2;rw[hl i (hi i h1)] at h2 ⊢;have h3:=h.s1 i (hi i h1) h2;exact⟨(ho _).2 h3.1,by rw[hg _ h3.1];exact h3.2⟩
 ·intro i j h1 h2 h3 h4;rw[hl i (hi i h1)] at h3 h4;rw[hl j (hi j h2)] at h4;exact h.s2 i j (hi i h1) (hi j h2) h3 h4
structure BN(p:Pl)(own:Int->Tk):Prop where
 shape:Shape own (lk p) (λs=>(p.slot s).Ap)
 tok:∀s,own s=.free↔(p.slot s).used=false
 zero:own 0=.free
structure X3(p p':Pl):Prop where
 BP:∀r,0<=r->r<24->p'.board r=p.board r
 slot:p'.slot=p.slot
 free:p'.free=p.free
section
variable{p p':Pl}{own:Int->Tk}{s:Int}{k a:Nat}{w c:Xd}{ce:Int->Xd->Xd->Prop}
theorem X3.refl(p:Pl):X3 p p:=⟨λ_ _ _=>rfl,rfl,rfl⟩
theorem X3.lk(h:X3 p p'):lk p'=lk p:=by
 funext i;cases i with
 |none=>exact h.BP 0 Zd Zd
 |some s=>show(p'.slot s).cell 2=_;rw[h.slot];rfl
theorem BN.alike(h:BN p own)(e:X3 p p'):BN p' own:=by
 refine⟨?_,λs=>by rw[e.slot];exact h.tok s,h.zero⟩;rw[e.lk];exact h.shape.same (λ_=>Iff.rfl) (λ_ _=>rfl) (λs _=>by rw[e.slot])
theorem Bs.alike(e:X3 p p'):Bs a ce p own p' own:=
 ⟨fun r h0 h1=>Or.inl (e.BP r h0 h1),fun s=>by rw [e.slot];exact Int.le_refl _,fun s j _=>⟨Iff.rfl,fun _=>by rw [e.slot]⟩,fun _ _ _=>Iff.rfl,fun _ _ _ h=>h,
  λs _ hf _=>⟨by rw[e.slot],hf,λf=>Or.inl (by rw[e.slot])⟩,λs h h'=>absurd h h',λs _ _=>by rw[e.slot],λs h=>by rw[h];simp⟩
theorem Bs.xM{t':Tk}(hs:own s=.fresh k\/own s=.chain\/own s=.Bi k)(ht:t'=.chain\/t'=.Bi k\/∃m,t'=.note m):Bs k ce p own p (Ah own s t'):=
 Bs.of (λ_ _ _=>Or.inl rfl) (λ_=>rfl) (λ_ _ _ _=>rfl) (λ_ _ _ _=>Or.inl rfl) λt=>by
  rw[X2];by_cases e:t=s
  ·rw[if_pos e,e];exact Or.inr ⟨hs,ht⟩
  ·rw[if_neg e];exact Or.inl rfl
structure KO(p:Pl)(own:Int->Tk):Prop where
 tok:∀s,own s=.free↔(p.slot s).used=false
 zero:own 0=.free
theorem BN.lo(h:BN p own):KO p own:=⟨h.tok,h.zero⟩
theorem KO.A5{own':Int->Tk}(h:KO p own)(hu:∀t,(p'.slot t).used=(p.slot t).used)(ho:∀t,own' t=.free↔own t=.free):KO p' own':=
 ⟨λt=>by rw[hu,ho];exact h.tok t,(ho 0).2 h.zero⟩
theorem KO.alike(h:KO p own)(e:X3 p p'):KO p' own:=h.A5 (λt=>by rw[e.slot]) λ_=>Iff.rfl
theorem BN.retire(h:BN p own)(hs:own s=.Bi k):BN p (Ah own s (.note (k+1000)))/\Bs k ce p own p (Ah own s (.note (k+1000))):=by
 have hu:∀t,Ah own s (.note (k+1000)) t=if t=s then .note (k+1000) else own t:=λt=>X2 ..;have hk:=h.lo.A5 (p':=p) (own':=Ah own s (.note (k+1000))) (λ_=>rfl) λt=>by
  rw[hu];by_cases e:t=s
  ·simp[e,hs]
  ·simp[e]
 refine⟨⟨h.shape.same (λt=>?_) (λ_ _=>rfl) (λ_ _=>rfl),hk.tok,hk.zero⟩,Bs.xM (Or.inr (Or.inr hs)) (Or.inr (Or.inr ⟨_,rfl⟩))⟩;rw[hu];by_cases e:t=s
 ·simp[e,hs]
 ·simp[e]
end
section
variable{p p':Pl}{own:Int->Tk}{s f:Int}{k:Nat}{w c:Xd}{ce:Int->Xd->Xd->Prop}{cs:Int->Xd}{i:Option Int}
structure IQ(p p':Pl)(s f:Int)(w:Xd):Prop where
 BP:∀r,0<=r->r<24->p'.board r=p.board r
 slot:∀t,p'.slot t=if t=s then{p.slot s with cell:=Ah (p.slot s).cell f w} else p.slot t
theorem IQ.Ap(e:IQ p p' s f w)(t:Int):(p'.slot t).Ap=(p.slot t).Ap/\(p'.slot t).used=(p.slot t).used:=by
 rw[e.slot];by_cases h:t=s
 ·rw[if_pos h,h];exact⟨rfl,rfl⟩
 ·rw[if_neg h];exact⟨rfl,rfl⟩
theorem IQ.Av(e:IQ p p' s f w){t:Int}(h:t≠s):p'.slot t=p.slot t:=by rw[e.slot,if_neg h]
theorem KO.store(h:KO p own)(hs:own s=.fresh k)(e:IQ p p' s f w):KO p' own/\Bs k ce p own p' own:=by
 refine⟨h.A5 (λt=>(e.Ap t).2) λ_=>Iff.rfl,Bs.of (λr h0 h1=>Or.inl (e.BP r h0 h1)) (λt=>(e.Ap t).1) (λt j hj hf=>e.Av λe'=>?_) (λt h0 hf g=>Or.inl ?_) λ_=>Or.inl rfl⟩
 ·rw[e',hs] at hf;cases hf;exact hj rfl
 ·rw[e.Av λe'=>by rw[e',hs] at hf;cases hf]
theorem BN.store(h:BN p own)(hs:own s=.fresh k)(e:IQ p p' s f w):BN p' own/\Bs k ce p own p' own:=by
 have hk:=h.lo.store (ce:=ce) hs e;refine⟨⟨h.shape.same (λ_=>Iff.rfl) (λi hi=>?_) (λt _=>(e.Ap t).1),hk.1.tok,hk.1.zero⟩,hk.2⟩;cases i with
 |none=>exact e.BP 0 Zd Zd
 |some t=>
  have hi:own t=.chain:=hi;show(p'.slot t).cell 2=(p.slot t).cell 2;rw[e.Av λe'=>by rw[e',hs] at hi;cases hi]
structure jH(p p':Pl)(s:Int):Prop where
 BP:∀r,0<=r->r<24->p'.board r=p.board r
 Av:∀t,t≠s->p'.slot t=p.slot t
 Ap:(p'.slot s).Ap=(p.slot s).Ap+1
 zero:∀f,f≠9->(p'.slot s).cell f=.zero
 used:(p'.slot s).used=true
theorem KO.alloc(h:KO p own)(hs:own s=.free)(h0:s≠0)(e:jH p p' s):KO p' (Ah own s (.fresh k))/\Bs k ce p own p' (Ah own s (.fresh k)):=by
 have hu:∀t,Ah own s (.fresh k) t=if t=s then .fresh k else own t:=λt=>X2 ..;have hc:∀t,own t=.chain->t≠s:=λt ht e'=>by rw[e',hs] at ht;cases ht
 refine⟨⟨λt=>?_,?_⟩,λr a b=>Or.inl (e.BP r a b),λt=>?_,λt j hj=>⟨?_,λhf=>e.Av t λe'=>?_⟩,λt j hj=>?_,λt j hj=>?_,λt h1 hf h2=>?_,λt h1 h2=>?_,λt h1 h2=>?_,λt h1=>by rw[hu,if_neg (hc t h1),h1];simp⟩
 ·rw[hu];by_cases e':t=s
  ·rw[if_pos e',e',e.used];simp
  ·rw[if_neg e',e.Av t e'];exact h.tok t
 ·rw[hu,if_neg (Ne.symm h0)];exact h.zero
 ·by_cases e':t=s
  ·rw[e',e.Ap];omega
  ·rw[e.Av t e'];exact Int.le_refl _
 ·rw[hu];by_cases e':t=s
  ·rw[if_pos e',e',hs];simp;exact λe=>hj e.symm
  ·rw[if_neg e']
 ·rw[e',hs] at hf;cases hf
 ·rw[hu];by_cases e':t=s<;>simp[e',hs]
 ·rw[hu];by_cases e':t=s
  ·rw[e',hs];intro h;cases h
  ·rw[if_neg e'];exact id
 ·have e':t≠s:=λe'=>h1 (by rw[e',hs]);rw[e.Av t e',hu,if_neg e'];exact⟨rfl,hf,λ_=>Or.inl rfl⟩
 ·by_cases e':t=s
  ·rw[e',e.Ap]
  ·rw[hu,if_neg e'] at h2;exact absurd h1 h2
 ·have e':t≠s:=λe'=>by rw[e',hs] at h1;cases h1
  rw[e.Av t e']
theorem BN.alloc(h:BN p own)(hs:own s=.free)(h0:s≠0)(e:jH p p' s):BN p' (Ah own s (.fresh k))/\Bs k ce p own p' (Ah own s (.fresh k)):=by
 have hk:=h.lo.alloc (k:=k) (ce:=ce) hs h0 e;have hc:∀t,own t=.chain->t≠s:=λt ht e'=>by rw[e',hs] at ht;cases ht
 refine⟨⟨h.shape.same (λt=>?_) (λi hi=>?_) (λt ht=>by rw[e.Av t (hc t ht)]),hk.1.tok,hk.1.zero⟩,hk.2⟩
 ·rw[X2];by_cases e':t=s<;>simp[e',hs]
 ·cases i with
  |none=>exact e.BP 0 Zd Zd
  |some t=>show(p'.slot t).cell 2=(p.slot t).cell 2;rw[e.Av t (hc t hi)]
structure PY(p p':Pl)(s:Int):Prop where
 BP:∀r,0<=r->r<24->p'.board r=p.board r
 Av:∀t,t≠s->p'.slot t=p.slot t
 Ap:(p'.slot s).Ap=(p.slot s).Ap
 used:(p'.slot s).used=false
theorem KO.free(h:KO p own)(hs:own s=.fresh k\/own s=.note k)(e:PY p p' s):KO p' (Ah own s .free)/\Bs k ce p own p' (Ah own s .free):=by
 have hu:∀t,Ah own s .free t=if t=s then .free else own t:=λt=>X2 ..;have hc:∀t,own t=.chain->t≠s:=λt ht e'=>by rw[e'] at ht;rcases hs with hs|hs<;>(rw[hs] at ht;cases ht)
 have hg:∀t,(p'.slot t).Ap=(p.slot t).Ap:=λt=>by
  by_cases e':t=s
  ·rw[e',e.Ap]
  ·rw[e.Av t e']
 refine⟨⟨λt=>?_,?_⟩,λr a b=>Or.inl (e.BP r a b),λt=>by rw[hg];exact Int.le_refl _,λt j hj=>⟨?_,λhf=>e.Av t λe'=>?_⟩,λt j hj=>?_,λt j hj=>?_,λt h1 hf h2=>?_,λt h1 h2=>?_,λt _ _=>hg t,λt h1=>by rw[hu,if_neg (hc t h1),h1];simp⟩
 ·rw[hu];by_cases e':t=s
  ·rw[if_pos e',e',e.used];simp
  ·rw[if_neg e',e.Av t e'];exact h.tok t
 ·rw[hu];by_cases e':(0:Int)=s
  ·rw[if_pos e']
  ·rw[if_neg e'];exact h.zero
 ·rw[hu];by_cases e':t=s
  ·rw[if_pos e',e'];rcases hs with hs|hs<;>rw[hs]<;>simp;exact λe=>hj e.symm
  ·rw[if_neg e']
 ·rw[e'] at hf;rcases hs with hs|hs<;>rw[hs] at hf<;>cases hf;exact hj rfl
 ·rw[hu];by_cases e':t=s
  ·rw[if_pos e',e'];rcases hs with hs|hs<;>simp[hs]
  ·rw[if_neg e']
 ·rw[hu];by_cases e':t=s
  ·rw[e'];rcases hs with hs|hs<;>rw[hs]<;>intro h
   ·cases h
   ·cases h;exact absurd rfl hj
  ·rw[if_neg e'];exact id
 ·have e':t≠s:=λe'=>by rw[hu,if_pos e'] at h2;exact h2 rfl
  rw[e.Av t e',hu,if_neg e'];exact⟨rfl,hf,λ_=>Or.inl rfl⟩
 ·exfalso;rw[hu] at h2;by_cases e':t=s
  ·rw[if_pos e'] at h2;exact h2 rfl
  ·rw[if_neg e'] at h2;exact h2 h1
theorem BN.free(h:BN p own)(hs:own s=.fresh k\/own s=.note k)(e:PY p p' s):BN p' (Ah own s .free)/\Bs k ce p own p' (Ah own s .free):=by
 have hk:=h.lo.free (ce:=ce) hs e;have hc:∀t,own t=.chain->t≠s:=λt ht e'=>by rw[e'] at ht;rcases hs with hs|hs<;>(rw[hs] at ht;cases ht)
 refine⟨⟨h.shape.same (λt=>?_) (λi hi=>?_) (λt ht=>by rw[e.Av t (hc t ht)]),hk.1.tok,hk.1.zero⟩,hk.2⟩
 ·rw[X2];by_cases e':t=s
  ·rw[if_pos e',e'];rcases hs with hs|hs<;>simp[hs]
  ·rw[if_neg e']
 ·cases i with
  |none=>exact e.BP 0 Zd Zd
  |some t=>show(p'.slot t).cell 2=(p.slot t).cell 2;rw[e.Av t (hc t hi)]
end
end Go.Proofs.YtaipogljokblkaaGreatDoor
