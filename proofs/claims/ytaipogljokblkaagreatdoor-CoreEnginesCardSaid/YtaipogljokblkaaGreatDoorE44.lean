/- Core: EaN, EaO, EaP. -/
import Derived.Test.YtaipogljokblkaaGreatDoorE42
import Derived.Test.YtaipogljokblkaaGreatDoorE01
import Derived.Test.YtaipogljokblkaaGreatDoorE40
set_option linter.all false
set_option maxRecDepth 100000
set_option maxHeartbeats 8000000
namespace Go.Proofs.YtaipogljokblkaaGreatDoor
open Go Go.RowKit
set_option linter.unusedSimpArgs false
set_option linter.unusedVariables false
set_option linter.unusedSectionVars false
structure CI(v0 v:Vw)(d:Int)(kp:Int->Int)(L l:Int->List Int)(C:Xd)(b k:Int)(pre post:List Int):Prop where
 DM:IL v d kp l
 JW:Sk v0 v d
 zs:∀s∈l 0,s∈L 0
 ls:∀j,(l j).filter (λt=>decide (t≠d))=(L j).filter λt=>decide (t≠d)
 up:∀j,k<j->j<3->rF v kp (l j) (C.E9 j) b j/\d∉l j
 lv:C.level=k
 bd:C.FE=b
 nf:C.found=.zero
 pv:C.spot.prev=HJ v k pre
 sp:l k=pre++post
 lo:∀t∈pre,kp t<b/\t≠d
section
variable{Q:Yu->Vw->Prop}{al n m:Nat}{v0 v:Vw}{d b k s:Int}{kp:Int->Int}{pre r post:List Int}{L l:Int->List Int}{C:Xd}{S:Xd->Xx}{K:Xd × Xf × Bool->Xx × Xf}
theorem IL.KC(h:IL v d kp l)(k0:0<=k)(k3:k<3)(hs:s∈l k):s∈l 0:=by
 have:k=0\/k=1\/k=2:=Zo;rcases this with rfl|rfl|rfl
 ·exact hs
 ·exact h.sub 0 Zd Zd s hs
 ·exact h.sub 0 Zd Zd s (h.sub 1 Zd Zd s hs)
theorem O2(hS:∀(C:Xd) (x:Xj),(S C).next x=K (C.step x))(hK:∀(C:Xd) (c:Xf),c.kind≠12->K (C,c,true)=(S C,c))(k0:0<=k)(k3:k<3)(h:CI v0 v d kp L l C b k pre (s::r))(hc:C.spot.cur=v.get C.spot.prev)
  (WL:s=d->∀(C':Xd) (v':Vw) (l':Int->List Int),CI v0 v' d kp L l' C' b k pre r->C'.spot.cur=v'.get C'.spot.prev->d∉l' k->Yc Q al m v' (K C'.on).1 (K C'.on).2)
  (stop:s≠d->b<=kp s->∀C':Xd,CI v0 v d kp L l C' b k pre (s::r)->C'.spot.cur=v.get C'.spot.prev->C'.k=kp s->Yc Q al m v (K C'.lower).1 (K C'.lower).2)
  (go:s≠d->kp s<b->∀C':Xd,CI v0 v d kp L l C' b k (pre++[s]) r->C'.spot.cur=v.get C'.spot.prev->Yc Q al m v (K C'.on).1 (K C'.on).2):
  Yc Q al (m+8) v (K C.behind).1 (K C.behind).2:=by
 have kq:=λC a i=>hK C (AA a i) (by show(6:Int)≠12;decide)
 have kl:=λC a=>hK C (Yv a) (by show(3:Int)≠12;decide)
 have kh:=λC i j=>hK C (FD i j) (by show(7:Int)≠12;decide)
 have kw:=λC a o w=>hK C (Y6 a o w) (by show(5:Int)≠12;decide)
 have hch:CU v (2+k) C.spot.cur (s::r):=by rw[hc,h.pv];exact h.DM.at_ k0 k3 h.sp
 obtain⟨c1,c2,c3⟩:=hch
 have hs:s∈l k:=by rw[h.sp];simp
 have hsz:s∈L 0:=h.zs s (h.DM.KC k0 k3 hs)
 have f0:(0:Int)<=2+k:=Zo
 have f9:2+k<9:=Zo
 have ha:v.Ad C.spot.prev:=by rw[h.pv];exact h.DM.ad k0 k3 h.sp
 have hkey:(v.cell C.spot.cur.sl 0).nm=kp s:=by rw[c1];exact h.DM.key k k0 k3 s hs
 have hnd:=h.DM.nd k0 k3
 rw[h.sp] at hnd
 have hsrt:=h.DM.OT k k0 k3
 rw[h.sp] at hsrt
 have hz:(0:Int)∉pre:=λhm=>h.DM.zero k0 k3 (by rw[h.sp];exact List.mem_append_left _ hm)
 obtain⟨pc,last,⟨pv,cur⟩,FE,level,nx,ky,s0,s1,s2,Uz⟩:=C
 obtain⟨h1,h2,h3,hls,h4,h5,h6,h7,h8,h9,h10⟩:=h
 simp only at h5 h6 h7 h8 hc c1 c2 ha hkey
 subst h5 h6 h7
 unfold Xd.behind
 rw[kq]
 refine .pr (Yd c2 f0 f9) (Yp c2.1) ?_ (show 0<=3*level/\3*level<9 by omega)
 rw[hS]
 simp only[Xd.step,show((3:Int)==2)=false from rfl,show((3:Int)==3)=true from rfl,Bool.false_eq_true,if_false,if_true,kl]
 refine .ld (Yd c2 Zd Zd) (Yp c2.1) ?_
 rw[hS]
 simp only[Xd.step,show((4:Int)==2)=false from rfl,show((4:Int)==3)=false from rfl,show((4:Int)==4)=true from rfl,Bool.false_eq_true,if_false,if_true,kl]
 refine .ld ha hc.symm ?_
 rw[hS]
 simp only[Xd.step,show((5:Int)==2)=false from rfl,show((5:Int)==3)=false from rfl,show((5:Int)==4)=false from rfl,show((5:Int)==5)=true from rfl,Bool.false_eq_true,if_false,if_true,Yx,Bool.not_true]
 rw[hkey]
 have hmk:=h1.WL level k0 k3 s hs
 by_cases hd:s=d
 ·have hm:=hmk.2 hd;rw[c1,if_pos hm,kw];have hdp:d∉pre:=λhm=>(List.nodup_append.1 hnd).2.2 d hm s (List.mem_cons_self ..) hd.symm;have ZJ:d∉r:=λhm=>(List.nodup_cons.1 (List.nodup_append.1 hnd).2.1).1 (hd▸hm);have hd0:d≠0:=hd▸(h1.held k0 k3 hs).1;have hpr:∀t∈r,t∉pre:=λt ht hm=>(List.nodup_append.1 hnd).2.2 t hm t (List.mem_cons_of_mem _ ht) rfl;refine .sw ha hc.symm (Yx _) rfl ?_;rw[hS];simp only[Xd.step,show((6:Int)==2)=false from rfl,show((6:Int)==3)=false from rfl,show((6:Int)==4)=false from rfl,show((6:Int)==5)=false from rfl,show((6:Int)==6)=true from rfl,Bool.false_eq_true,if_false,if_true];have hx:CU (v.put (HJ v level pre) (En cur (v.cell s (2+level)))) (2+level) (En cur (v.cell s (2+level))) r:=by
   refine(CU.put (v:=v) (b:=HJ v level pre) (w:=v.cell s (2+level)) c3 (Or.inr λhm=>?_)).ref rfl rfl;rcases @CJ v level pre with⟨e,_⟩|e
   ·rw[e] at hm;exact(c3.held _ hm).1 rfl
   ·exact hpr _ hm e.1
  have ht:=h1.splice (r:=r) k0 k3 h9 hdp hx rfl (fun t ht=>⟨h1.WL level k0 k3 t (by rw [h9];simp [ht]),hpr t ht,fun hk=>by
   have:=h1.sub (level - 1) Zo Zo t;rw [show level - 1+1 = level by omega] at this;exact this (by rw [h9];simp [ht]),h1.key level k0 k3 t (by rw [h9];simp [ht])⟩) (by
   refine hsrt.sublist ?_;exact(List.Sublist.refl pre).append (List.sublist_cons_self ..)) λhk t ht=>by
   have h11:=(h4 (level+1) Zo Zo).2;have:=h1.sub level k0 hk t ht;rw[h9] at this;rcases List.mem_append.1 this with h|h
   ·exact List.mem_append_left _ h
   ·rcases List.mem_cons.1 h with e|h
    ·exact absurd (by rw[←hd,←e];exact ht) h11
    ·exact List.mem_append_right _ h
  have eu:∀j,j≠level->Ap l level (pre++r) j=l j:=λj hj=>by rw[X2,if_neg hj]
  have ek:Ap l level (pre++r) level=pre++r:=by rw[X2,if_pos rfl]
  have hdl:d∉pre++r:=λhm=>(List.mem_append.1 hm).elim hdp ZJ;rw[←h8] at ht;refine WL hd _ _ (Ap l level (pre++r)) ⟨ht,h2.trans (by rw[h8];exact Wq hd0 k0 k3),λt ht'=>?_,λj=>?_,λj j1 j2=>⟨?_,?_⟩,rfl,rfl,rfl,?_,ek,h10⟩ ?_ (by rw[ek];exact hdl)
  ·refine h3 t ?_;by_cases e:level=0
   ·subst e;rw[ek] at ht';rw[h9];rcases List.mem_append.1 ht' with h|h
    ·exact List.mem_append_left _ h
    ·exact List.mem_append_right _ (List.mem_cons_of_mem _ h)
   ·rwa [eu 0 λe'=>e e'.symm] at ht'
  ·rw[←hls j];by_cases e:j=level
   ·subst e;rw[ek,h9,List.filter_append,List.filter_append,List.filter_cons_of_neg (by rw[hd];simp)]
   ·rw[eu j e]
  ·rw[h8];exact(h4 j j1 j2).1.put h1 k0 k3 Zo j2 Zo hz (eu j Zo)
  ·rw[eu j Zo];exact(h4 j j1 j2).2
  ·show pv=_;rw[RH AD];exact h8
  ·show En cur _=(v.put pv _).get pv;rw[CH,if_pos ⟨rfl,rfl⟩]
 ·have hm:¬(v.cell s (2+level)).mark=true:=λe=>hd (hmk.1 e);rw[c1,if_neg hm];by_cases hb:FE<=kp s
  ·rw[if_pos (decide_eq_true hb)];refine Yc.more (n:=m) (a:=al) ?_ (Nat.le_refl _) Zo;exact stop hd hb _ ⟨h1,h2,h3,hls,h4,rfl,rfl,rfl,h8,h9,h10⟩ hc rfl
  ·rw[if_neg (by rw[decide_eq_false hb];decide),kh];refine .hd ?_ (show 0<=3*level+2/\3*level+2<9 by omega);rw[hS];simp only[Xd.step,show((7:Int)==2)=false from rfl,show((7:Int)==3)=false from rfl,show((7:Int)==4)=false from rfl,show((7:Int)==5)=false from rfl,show((7:Int)==6)=false from rfl,show((7:Int)==0)=false from rfl,show((7:Int)==7)=true from rfl,Bool.false_eq_true,if_false,if_true];have hw:Xg cur (2+level)=HJ v level (pre++[s]):=by rw[RI];unfold Xg;rw[c2.2.2,c1]
   refine go hd Zo _ ⟨h1,h2,h3,hls,h4,rfl,rfl,rfl,hw,by rw[h9];simp,λt ht=>?_⟩ ?_
   ·rcases List.mem_append.1 ht with ht|ht
    ·exact h10 t ht
    ·rw[List.mem_singleton.1 ht];exact⟨by omega,hd⟩
   ·show _=v.get (Xg cur (2+level));rw[Yp c2.1,c1]
def Ve(Q:Yu->Vw->Prop)(al n:Nat)(v0:Vw)(d:Int)(kp:Int->Int)(L:Int->List Int)(K:Xd × Xf × Bool->Xx × Xf)(b k:Int):Prop:=
 ∀(C:Xd) (v:Vw) (l:Int->List Int) (pre post:List Int),CI v0 v d kp L l C b k pre post->C.spot.cur=v.get C.spot.prev->d∉l k->(∀s r,post=s::r->b<=kp s/\C.k=kp s)->Yc Q al (n+9*I9 kp (L 0) pre) v (K C.lower).1 (K C.lower).2
theorem pH(hK:∀(C:Xd) (c:Xf),c.kind≠12->K (C,c,true)=(S C,c))(hS:∀(C:Xd) (x:Xj),(S C).next x=K (C.step x))(hn:¬C.spot.cur.sl=0)(hlv:0<=C.level/\C.level<3)(h:∀pc,Yc Q al n v (K {C with pc:=pc}.behind).1 (K {C with pc:=pc}.behind).2):Yc Q al (n+1) v (K C.on).1 (K C.on).2:=by
 have kh:=λC i j=>hK C (FD i j) (by show(7:Int)≠12;decide);unfold Xd.on;rw[if_neg (by simpa using hn),kh];refine .hd ?_ (show 0<=3*C.level+1/\3*C.level+1<9 by omega);rw[hS];simp only[Xd.step,show((8:Int)==2)=false from rfl,show((8:Int)==3)=false from rfl,show((8:Int)==4)=false from rfl,show((8:Int)==5)=false from rfl,show((8:Int)==6)=false from rfl,show((8:Int)==0)=false from rfl,show((8:Int)==7)=false from rfl,show((8:Int)==8)=true from rfl,Bool.false_eq_true,if_false,if_true];exact h 8
theorem Qx(hn:C.spot.cur.sl=0)(h:Yc Q al n v (K C.lower).1 (K C.lower).2):Yc Q al n v (K C.on).1 (K C.on).2:=by
 unfold Xd.on;rw[if_pos (by simpa using hn)];exact h
theorem CI.pc{pc:Int}(h:CI v0 v d kp L l C b k pre post):CI v0 v d kp L l {C with pc:=pc} b k pre post:=⟨h.1,h.2,h.3,h.4,h.5,h.6,h.7,h.8,h.9,h.10,h.11⟩
theorem pJ(hS:∀(C:Xd) (x:Xj),(S C).next x=K (C.step x))(hK:∀(C:Xd) (c:Xf),c.kind≠12->K (C,c,true)=(S C,c))(k0:0<=k)(k3:k<3)(hdk:d≠0->b=kp d+1)(low:Ve Q al n v0 d kp L K b k):
  ∀(post pre:List Int) (s:Int) (v:Vw) (l:Int->List Int) (C:Xd),CI v0 v d kp L l C b k pre (s::post)->C.spot.cur=v.get C.spot.prev->Yc Q al (n+9*I9 kp (L 0) pre+9+(if d∈s::post then 9 else 0)) v (K C.behind).1 (K C.behind).2:=by
 intro post
 induction post with
 |nil=>
  intro pre s v l C h hc
  have hs:s∈l k:=by rw[h.sp];simp
  have hsz:s∈L 0:=h.zs s (h.DM.KC k0 k3 hs)
  have hsrt:=h.DM.OT k k0 k3
  rw[h.sp] at hsrt
  have hnx:∀{C':Xd} {v':Vw} {l':Int->List Int} {p:List Int},CI v0 v' d kp L l' C' b k p []->C'.spot.cur=v'.get C'.spot.prev->C'.spot.cur.sl=0:=λh' hc'=>by
   have:=h'.DM.at_ k0 k3 h'.sp;rw[←h'.pv,←hc'] at this;exact this
  refine(O2 (m:=n+9*I9 kp (L 0) pre) hS hK k0 k3 h hc (λe C' v' l' h' hc' hd'=>?_) (λe hb C' h' hc' hk'=>?_) λe hb C' h' hc'=>?_).more (Nat.le_refl _) Zo
  ·exact Qx (hnx h' hc') (low C' v' l' pre [] h' hc' hd' λ_ _ e=>by cases e)
  ·refine low C' v l pre [s] h' hc' (λhm=>?_) λs' r' e'=>by cases e';exact⟨hb,hk'⟩
   rw[h.sp] at hm;rcases List.mem_append.1 hm with hm|hm
   ·exact(h.lo d hm).2 rfl
   ·exact e (List.mem_singleton.1 hm).symm
  ·refine(Qx (hnx h' hc') (low C' v l (pre++[s]) [] h' hc' (λhm=>?_) λ_ _ e=>by cases e)).more (Nat.le_refl _) ?_
   ·rw[h.sp] at hm;rcases List.mem_append.1 hm with hm|hm
    ·exact(h.lo d hm).2 rfl
    ·exact e (List.mem_singleton.1 hm).symm
   ·have:=Q9 (kp:=kp) (pre:=pre) hsz λu hu=>(List.pairwise_append.1 hsrt).2.2 u hu s (List.mem_cons_self ..);omega
 |cons u r ih=>
  intro pre s v l C h hc
  have hs:s∈l k:=by rw[h.sp];simp
  have hsz:s∈L 0:=h.zs s (h.DM.KC k0 k3 hs)
  have hsrt:=h.DM.OT k k0 k3
  rw[h.sp] at hsrt
  have hnd:=h.DM.nd k0 k3
  rw[h.sp] at hnd
  have hnx:∀{C':Xd} {v':Vw} {l':Int->List Int} {p:List Int},CI v0 v' d kp L l' C' b k p (u::r)->C'.spot.cur=v'.get C'.spot.prev->¬C'.spot.cur.sl=0:=λ{C' v' l' p} h' hc'=>by
   have:=h'.DM.at_ k0 k3 h'.sp;rw[←h'.pv,←hc'] at this;rw[this.1];exact(h'.DM.held k0 k3 (s:=u) (by rw[h'.sp];simp)).1
  have hin:(if d∈s::u::r then 9 else 0:Nat)=if d=s then 9 else if d∈u::r then 9 else 0:=by
   by_cases e:d=s
   ·rw[if_pos e,if_pos (by rw[e];simp)]
   ·rw[if_neg e];by_cases e2:d∈u::r
    ·rw[if_pos e2,if_pos (List.mem_cons_of_mem _ e2)]
    ·rw[if_neg e2,if_neg λhm=>(List.mem_cons.1 hm).elim e e2]
  refine(O2 (m:=n+9*I9 kp (L 0) pre+1+(if d∈s::u::r then 9 else 0)) hS hK k0 k3 h hc (λe C' v' l' h' hc' hd'=>?_) (λe hb C' h' hc' hk'=>?_) λe hb C' h' hc'=>?_).more (Nat.le_refl _) Zo
  ·have hdn:d∉u::r:=λhm=>hd' (by rw[h'.sp];exact List.mem_append_right _ hm);have hi:=λpc=>ih pre u v' l' {C' with pc:=pc} h'.pc hc';rw[if_neg hdn] at hi;refine(pH hK hS (hnx h' hc') (by rw[h'.lv];exact⟨k0,k3⟩) hi).more (Nat.le_refl _) ?_;rw[hin,if_pos e.symm];omega
  ·refine(low C' v l pre (s::u::r) h' hc' (λhm=>?_) λs' r' e'=>by cases e';exact⟨hb,hk'⟩).more (Nat.le_refl _) Zo;have hd0:d≠0:=(h.DM.held k0 k3 hm).1;have hbd:=hdk hd0;rw[h.sp] at hm;rcases List.mem_append.1 hm with hm|hm
   ·exact(h.lo d hm).2 rfl
   ·rcases List.mem_cons.1 hm with hm|hm
    ·exact e hm.symm
    ·have:=(List.pairwise_cons.1 (List.pairwise_append.1 hsrt).2.1).1 d hm;omega
  ·have hb2:=Q9 (kp:=kp) (pre:=pre) hsz λu hu=>(List.pairwise_append.1 hsrt).2.2 u hu s (List.mem_cons_self ..);refine(pH hK hS (hnx h' hc') (by rw[h'.lv];exact⟨k0,k3⟩) λpc=>ih (pre++[s]) u v l {C' with pc:=pc} h'.pc hc').more (Nat.le_refl _) ?_;rw[hin,if_neg (λe':d=s=>e e'.symm)];omega
end
theorem IL.congr{v:Vw}{d:Int}{kp:Int->Int}{l l':Int->List Int}(h:IL v d kp l)(e:∀k,0<=k->k<3->l' k=l k):IL v d kp l':=
 ⟨λk h0 h3=>by rw[e k h0 h3];exact h.ch k h0 h3,h.m0,λk h0 h3=>by rw[e k h0 h3];exact h.WL k h0 h3,λk h0 h3=>by rw[e k h0 Zo,e (k+1) Zo Zo];exact h.sub k h0 h3,λk h0 h3=>by rw[e k h0 h3];exact h.key k h0 h3,λk h0 h3=>by rw[e k h0 h3];exact h.OT k h0 h3⟩
def Iz(d:Int)(L:Int->List Int)(k:Int):List Int:=(L k).filter λt=>decide (t≠d)
theorem ZA{d:Int}{l L:Int->List Int}{k:Int}(h:(l k).filter (λt=>decide (t≠d))=(L k).filter λt=>decide (t≠d))(hd:d∉l k):Iz d L k=l k:=by
 unfold Iz;rw[←h];exact List.filter_eq_self.2 λt ht=>decide_eq_true λe=>hd (e▸ht)
structure CEnd(v0 v:Vw)(d:Int)(kp:Int->Int)(L:Int->List Int)(C:Xd)(b:Int):Prop where
 DM:IL v d kp (Iz d L)
 JW:Sk v0 v d
 up:∀j,0<=j->j<3->rF v kp (Iz d L j) (C.E9 j) b j
 Uz:∃pre post,Iz d L 0=pre++post/\(∀t∈pre,kp t<b)/\((∃s r,post=s::r/\kp s=b/\C.found=⟨s,v.As s,0,0,false⟩)\/((∀s r,post=s::r->b<kp s)/\C.found=.zero))
section
variable{Q:Yu->Vw->Prop}{al n m:Nat}{v0 v:Vw}{d b k s:Int}{kp:Int->Int}{pre r post:List Int}{L l:Int->List Int}{C:Xd}{S:Xd->Xx}{K:Xd × Xf × Bool->Xx × Xf}
theorem Uw{s:Bq}{i j:Int}(i0:0<=i)(i3:i<3)(j0:0<=j)(j3:j<3):(C.Dc i s).E9 j=if j=i then s else C.E9 j:=by
 have hi:i=0\/i=1\/i=2:=Zo;have hj:j=0\/j=1\/j=2:=Zo;rcases hi with rfl|rfl|rfl<;>rcases hj with rfl|rfl|rfl<;>rfl
theorem mC{s:Bq}{i:Int}:(C.Dc i s).spot=C.spot/\(C.Dc i s).level=C.level/\(C.Dc i s).FE=C.FE/\(C.Dc i s).found=C.found/\(C.Dc i s).k=C.k:=by
 unfold Xd.Dc;by_cases h:(i==0)=true
 ·rw[if_pos h];exact⟨rfl,rfl,rfl,rfl,rfl⟩
 ·rw[if_neg h];by_cases h1:(i==1)=true
  ·rw[if_pos h1];exact⟨rfl,rfl,rfl,rfl,rfl⟩
  ·rw[if_neg h1];exact⟨rfl,rfl,rfl,rfl,rfl⟩
theorem CI.lve(h:CI v0 v d kp L l C b k pre post)(k0:0<=k)(k3:k<3)(hc:C.spot.cur=v.get C.spot.prev)(hp:∀s r,post=s::r->b<=kp s/\C.k=kp s):rF v kp (l k) C.spot b k:=by
 refine⟨pre,post,h.sp,h.pv,hc,λt ht=>(h.lo t ht).1,λt ht=>?_⟩;cases post with
 |nil=>cases ht
 |cons s r=>
  have h1:=(hp s r rfl).1;rcases List.mem_cons.1 ht with rfl|ht
  ·exact h1
  ·have hs:=h.DM.OT k k0 k3;rw[h.sp] at hs;have:=(List.pairwise_cons.1 (List.pairwise_append.1 hs).2.1).1 t ht;omega
theorem LW(hS:∀(C:Xd) (x:Xj),(S C).next x=K (C.step x))(hK:∀(C:Xd) (c:Xf),c.kind≠12->K (C,c,true)=(S C,c))(k0:0<=k)(k3:k<3)(hdk:d≠0->b=kp d+1)(low:Ve Q al n v0 d kp L K b k)(h:CI v0 v d kp L l C b k pre post):Yc Q al (n+9*I9 kp (L 0) pre+23) v (K C.enter).1 (K C.enter).2:=by
 have kq:=λC a i=>hK C (AA a i) (by show(6:Int)≠12;decide);have hm:(v.get C.spot.prev).mark=false:=by rw[h.pv];exact h.DM.mark k0 k3 h.sp λhm=>(h.lo d hm).2 rfl
 have hch:=h.DM.at_ k0 k3 h.sp;rw[←h.pv] at hch;unfold Xd.enter;rw[kq];refine .more (n:=n+9*I9 kp (L 0) pre+18+5) (a:=al) (.pr (by rw[h.pv];exact h.DM.ad k0 k3 h.sp) rfl ?_ (by rw[h.lv];omega)) (Nat.le_refl _) Zo;rw[hS];simp only[Xd.step,show((2:Int)==2)=true from rfl,Bool.false_eq_true,if_false,if_true,hm];cases post with
 |nil=>
  have h0:(v.get C.spot.prev).sl=0:=hch;rw[if_pos (by simpa using h0)];refine Yc.more (n:=n+9*I9 kp (L 0) pre) (a:=al) ?_ (Nat.le_refl _) Zo;refine low _ v l pre [] ⟨h.DM,h.JW,h.zs,h.ls,h.up,h.lv,h.bd,h.nf,h.pv,h.sp,h.lo⟩ rfl (λhm=>?_) λ_ _ e=>by cases e
  rw[h.sp,List.append_nil] at hm;exact(h.lo d hm).2 rfl
 |cons s r=>
  have hs:s∈l k:=by rw[h.sp];simp
  have h0:¬(v.get C.spot.prev).sl=0:=by rw[hch.1];exact(h.DM.held k0 k3 hs).1
  rw[if_neg (by simpa using h0)];refine Yc.more (n:=n+9*I9 kp (L 0) pre+9+(if d∈s::r then 9 else 0)) (a:=al) ?_ (Nat.le_refl _) (by split<;>omega);exact pJ hS hK k0 k3 hdk low r pre s v l _ ⟨h.DM,h.JW,h.zs,h.ls,h.up,h.lv,h.bd,h.nf,h.pv,h.sp,h.lo⟩ rfl
theorem Uo(hS:∀(C:Xd) (x:Xj),(S C).next x=K (C.step x))(hK:∀(C:Xd) (c:Xf),c.kind≠12->K (C,c,true)=(S C,c))(k0:0<=k)(k3:k+1<3)(hdk:d≠0->b=kp d+1)(low:Ve Q al n v0 d kp L K b k):Ve Q al (n+24) v0 d kp L K b (k+1):=by
 intro C v l pre post h hc hd hp;have kh:=λC i j=>hK C (FD i j) (by show(7:Int)≠12;decide);have hl:=h.lve Zo k3 hc hp;obtain⟨f1,f2,f3,f4,f5⟩:=@mC C C.spot (k+1);have hup:∀j,k<j->j<3->rF v kp (l j) ((C.Dc (k+1) C.spot).E9 j) b j/\d∉l j:=λj j1 j2=>by
  rw[Uw Zo k3 Zo j2];by_cases e:j=k+1
  ·subst e;rw[if_pos rfl];exact⟨hl,hd⟩
  ·rw[if_neg e];exact h.up j Zo j2
 unfold Xd.lower;simp only[h.lv];generalize C.Dc (k+1) C.spot=C1 at*;simp only[f1,f2,h.lv,show((k+1:Int)==0)=false by simp;omega,Bool.false_eq_true,if_false,Int.add_sub_cancel];rcases List.eq_nil_or_concat pre with rfl|⟨p0,y,rfl⟩
 ·have h0:C.spot.prev.sl=0:=by rw[h.pv];rfl
  rw[if_pos (by simpa using h0)];refine Yc.more (n:=n+9*I9 kp (L 0) []+23) (a:=al) ?_ (Nat.le_refl _) Zo;exact LW (C:={C1 with level:=k,spot:={C.spot with prev:=root k}}) (pre:=[]) (post:=l k) hS hK k0 Zo hdk low ⟨h.DM,h.JW,h.zs,h.ls,hup,rfl,f3.trans h.bd,f4.trans h.nf,rfl,rfl,λt ht=>by cases ht⟩
 ·rw[List.concat_eq_append] at*;have hpv:C.spot.prev=⟨y,v.As y,2+(k+1)⟩:=by rw[h.pv,RI]
  have hy1:y∈l (k+1):=by rw[h.sp];simp
  have hy:y∈l k:=h.DM.sub k k0 Zo y hy1;have hy0:y≠0:=(h.DM.held Zo k3 hy1).1;have hyl:=h.lo y Zs;rw [if_neg (by rw [hpv];simpa using hy0),hpv,kh];obtain ⟨p,q,e⟩:=List.append_of_mem hy;have hsrt:=h.DM.OT k k0 Zo;rw [e] at hsrt;refine .more (n:=n+9*I9 kp (L 0) (p0++[y])+23+1) (a:=al) (.hd ?_ Zo) (Nat.le_refl _) Zo;rw [hS];simp only [Xd.step,show ((9:Int)==2) = false from rfl,show ((9:Int)==3) = false from rfl,show ((9:Int)==4) = false from rfl,show ((9:Int)==5) = false from rfl,show ((9:Int)==6) = false from rfl,show ((9:Int)==0) = false from rfl,show ((9:Int)==7) = false from rfl,show ((9:Int)==8) = false from rfl,show ((9:Int)==9) = true from rfl,Bool.false_eq_true,if_false,if_true];have hlt:∀ t∈p,kp t < kp y:=fun t ht=>(List.pairwise_append.1 hsrt).2.2 t ht y (List.mem_cons_self ..);have hbl:I9 kp (L 0) (p++[y])≤I9 kp (L 0) (p0++[y]):=vO fun u hu=>⟨y,by simp,by
   rcases List.mem_append.1 hu with hu|hu
   ·have hs1:=h.DM.OT (k+1) Zo k3;rw[h.sp,List.append_assoc] at hs1;exact Int.le_of_lt ((List.pairwise_append.1 hs1).2.2 u hu y Zs)
   ·rw[List.mem_singleton.1 hu];exact Int.le_refl _⟩
  refine Yc.more (n:=n+9*I9 kp (L 0) (p++[y])+23) (a:=al) ?_ (Nat.le_refl _) Zo;refine LW (pre:=p++[y]) (post:=q) hS hK k0 Zo hdk low ⟨h.DM,h.JW,h.zs,h.ls,hup,rfl,f3.trans h.bd,f4.trans h.nf,(RI y).symm,by rw[e];simp,λt ht=>?_⟩
  ·rcases List.mem_append.1 ht with ht|ht
   ·have:=hlt t ht;refine⟨by omega,λe'=>?_⟩;subst e';have:=hdk (h.DM.held k0 Zo (s:=t) (by rw[e];simp[ht])).1;omega
   ·rw[List.mem_singleton.1 ht];exact hyl
theorem uI(fin:∀(C:Xd) (v:Vw),CEnd v0 v d kp L C b->Yc Q al n v (K (C,Xf.zero,false)).1 (K (C,Xf.zero,false)).2):Ve Q al n v0 d kp L K b 0:=by
 intro C v l pre post h hc hd hp;have hl:=h.lve Zd Zd hc hp;have hch:=h.DM.at_ Zd Zd h.sp;rw [← h.pv,← hc] at hch;obtain ⟨f1,f2,f3,f4,f5⟩:=@mC C C.spot 0;have hlo:∀ j,0≤j→j < 3→Iz d L j = l j:=fun j j0 j3=>ZA (h.ls j) (by
  by_cases e:j=0
  ·rw[e];exact hd
  ·exact(h.up j Zo j3).2)
 have hup:∀j,0<=j->j<3->rF v kp (Iz d L j) ((C.Dc 0 C.spot).E9 j) b j:=λj j1 j2=>by
  rw[Uw Zd Zd j1 j2,hlo j j1 j2];by_cases e:j=0
  ·subst e;rw[if_pos rfl];exact hl
  ·rw[if_neg e];exact(h.up j Zo j2).1
 have htow:=h.DM.congr hlo;have hsp:Iz d L 0=pre++post:=(hlo 0 Zd Zd).trans h.sp;unfold Xd.lower;simp only[h.lv];generalize C.Dc 0 C.spot=C1 at*;simp only[f1,f2,f3,f5,h.lv,h.bd,show((0:Int)==0)=true from rfl,if_true];cases post with
 |nil=>
  have h0:C.spot.cur.sl=0:=hch;rw[if_neg (by rw[h0];simp)];refine Yc.more (n:=n) (a:=al) ?_ (Nat.le_refl _) Zo;exact fin _ v ⟨htow,h.JW,hup,pre,[],hsp,λt ht=>(h.lo t ht).1,Or.inr ⟨λ_ _ e=>(by cases e),f4.trans h.nf⟩⟩
 |cons s r=>
  obtain⟨p1,p2⟩:=hp s r rfl;obtain⟨c1,c2,c3⟩:=hch;have h0:¬C.spot.cur.sl=0:=c2.1;by_cases e:kp s=b
  ·rw[if_pos (by rw[p2,e];simpa using h0)];refine Yc.more (n:=n) (a:=al) ?_ (Nat.le_refl _) Zo;exact fin _ v ⟨htow,h.JW,hup,pre,s::r,hsp,λt ht=>(h.lo t ht).1,Or.inl ⟨s,r,rfl,e,by unfold Yt;rw[c2.2.2,c1]⟩⟩
  ·rw[if_neg (by rw[p2];simp[e])];refine Yc.more (n:=n) (a:=al) ?_ (Nat.le_refl _) Zo;exact fin _ v ⟨htow,h.JW,hup,pre,s::r,hsp,λt ht=>(h.lo t ht).1,Or.inr ⟨λs' r' e'=>(by cases e';omega),f4.trans h.nf⟩⟩
theorem GA(hS:∀(C:Xd) (x:Xj),(S C).next x=K (C.step x))(hK:∀(C:Xd) (c:Xf),c.kind≠12->K (C,c,true)=(S C,c))(h:IL v d kp L)(hdk:d≠0->b=kp d+1)(x:Xj)
  (fin:∀(C:Xd) (v':Vw),CEnd v v' d kp L C b->Yc Q al n v' (K (C,Xf.zero,false)).1 (K (C,Xf.zero,false)).2):
  Yc Q al (n+9*(L 0).length+71) v (K ((Xd.new b).step x)).1 (K ((Xd.new b).step x)).2:=by
 have hl:=Uo hS hK (k:=1) Zd Zd hdk (Uo hS hK (k:=0) Zd Zd hdk (uI fin))
 have e:(Xd.new b).step x=Xd.enter {Xd.new b with level:=2,spot:={(Xd.new b).spot with prev:=root 2}}:=rfl
 rw[e]
 have hb:I9 kp (L 0) []<=(L 0).length:=qB
 refine(LW (k:=2) (pre:=[]) (post:=L 2) (l:=L) hS hK Zd Zd hdk hl ⟨h,.refl,λ_ hs=>hs,λ_=>rfl,λj j1 j2=>(by omega),rfl,rfl,rfl,rfl,rfl,λt ht=>(by cases ht)⟩).more (Nat.le_refl _) Zo
end
structure SkpC(v:Vw)(kp:Int->Int)(l:Int->List Int):Prop where
 DM:IL v 0 kp l
 ht:∀s∈l 0,1<=(v.cell s 6).nm/\(v.cell s 6).nm<=3/\(v.cell s 7).nm=1
 lv:∀k,0<=k->k<3->∀s,s∈l k↔s∈l 0/\k<(v.cell s 6).nm
def UY(v:Vw)(L:List (Int × Int)):Prop:=∃kp l,SkpC v kp l/\Bi v (l 0)=L
section
variable{v v':Vw}{d s b:Int}{kp kp':Int->Int}{l:Int->List Int}{C:Xd}
theorem IL.same(h:IL v d kp l)(hr:∀k,0<=k->k<3->v'.root k=v.root k)(hs:∀t∈l 0,v'.held t/\v'.As t=v.As t/\∀f,f=0\/(2<=f/\f<5)->v'.cell t f=v.cell t f)(hk:∀t∈l 0,kp' t=kp t):IL v' d kp' l:=
 ⟨fun k h0 h3=>by rw [hr k h0 h3];exact (h.ch k h0 h3).same fun t ht=>⟨(hs t (h.KC h0 h3 ht)).1,(hs t (h.KC h0 h3 ht)).2.1,(hs t (h.KC h0 h3 ht)).2.2 _ (Or.inr Zo)⟩,
  λk h0 h3=>by rw[hr k h0 h3];exact h.m0 k h0 h3,
  λk h0 h3 t ht=>by rw[(hs t (h.KC h0 h3 ht)).2.2 _ (Or.inr Zo)];exact h.WL k h0 h3 t ht,h.sub,
  λk h0 h3 t ht=>by rw[(hs t (h.KC h0 h3 ht)).2.2 _ (Or.inl rfl),hk t (h.KC h0 h3 ht)];exact h.key k h0 h3 t ht,
  λk h0 h3=>(h.OT k h0 h3).imp_of_mem λha hb hab=>by rw[hk _ (h.KC h0 h3 ha),hk _ (h.KC h0 h3 hb)];exact hab⟩
theorem ZB(h:IL v d kp l){k:Int}(k0:0<=k)(k3:k<3):Iz 0 l k=l k:=ZA rfl λhm=>(h.held k0 k3 hm).1 rfl
theorem CU.alike{f:Int}{r:List Int}{w:Xe}(h:CU v f w r)(hs:∀s∈r,v'.held s/\v'.As s=v.As s/\(v'.cell s f).sl=(v.cell s f).sl/\(v'.cell s f).gn=(v.cell s f).gn):CU v' f w r:=by
 induction r generalizing w with
 |nil=>exact h
 |cons a r ih=>
  obtain⟨rfl,h1,h2⟩:=h;obtain⟨a1,a2,a3,a4⟩:=hs w.sl (List.mem_cons_self ..);exact⟨rfl,⟨h1.1,a1,h1.2.2.trans a2.symm⟩,(ih h2 λs hm=>hs s (List.mem_cons_of_mem _ hm)).ref a3 a4⟩
structure wL(v v':Vw)(s m:Int):Prop where
 held:v'.held=v.held
 As:v'.As=v.As
 root:v'.root=v.root
 cell:∀t f,¬(t=s/\2<=f/\f<=2+m)->v'.cell t f=v.cell t f
 mark:∀f,2<=f->f<=2+m->(v'.cell s f).sl=(v.cell s f).sl/\(v'.cell s f).gn=(v.cell s f).gn/\(v'.cell s f).mark=true
theorem wL.DM{m:Int}(h:wL v v' s m)(ht:IL v 0 kp l)(hs:s∈l 0)(hl:∀k,0<=k->k<3->(s∈l k↔k<=m))(hm:m<3):IL v' s kp l:=by
 have hk:∀t f,f<2->v'.cell t f=v.cell t f:=λt f hf=>h.cell t f λe=>by omega
 refine⟨λk h0 h3=>?_,λk h0 h3=>by rw[h.root];exact ht.m0 k h0 h3,λk h0 h3 t hm'=>?_,ht.sub,λk h0 h3 t hm'=>by rw[hk t 0 Zd];exact ht.key k h0 h3 t hm',ht.OT⟩
 ·rw[h.root];refine(ht.ch k h0 h3).alike λt hm'=>⟨by rw[h.held];exact(ht.held h0 h3 hm').2,by rw[h.As],?_⟩;by_cases e:t=s/\2+k<=2+m
  ·obtain⟨rfl,e⟩:=e;have:=h.mark (2+k) Zo e;exact⟨this.1,this.2.1⟩
  ·rw[h.cell t (2+k) λe'=>e ⟨e'.1,e'.2.2⟩];exact⟨rfl,rfl⟩
 ·by_cases e:t=s
  ·subst e;have:=(hl k h0 h3).1 hm';exact⟨λ_=>rfl,λ_=>(h.mark (2+k) Zo Zo).2.2⟩
  ·rw[h.cell t (2+k) λe'=>e e'.1];have:=ht.WL k h0 h3 t hm';exact⟨λhc=>absurd (this.1 hc) (ht.held h0 h3 hm').1,λe'=>absurd e' e⟩
theorem IL.clean(h:IL v d kp l)(hd:∀k,0<=k->k<3->d∉l k):IL v 0 kp l:=⟨h.ch,h.m0,λk h0 h3 t ht=>⟨λhm=>absurd ((h.WL k h0 h3 t ht).1 hm▸ht) (hd k h0 h3),λe=>absurd e (h.held h0 h3 ht).1⟩,h.sub,h.key,h.OT⟩
theorem Ji{k t:Int}:t∈Iz d l k↔t∈l k/\t≠d:=by unfold Iz;rw[List.mem_filter];simp
end
section
variable{Q:Yu->Vw->Prop}{al n:Nat}{v:Vw}{L:List (Int × Int)}{op:A3}
def Pa(J:Xc)(f:Int)(r:Xd × Xf × Bool):Xx × Xf:=
 if r.2.2 then(.FJ {J with Ab:=some r.1},r.2.1) else
 if r.1.found.sl=0 then(.FJ {J with Ab:=some r.1,node:=r.1.found,pc:=-1,last:=BK 2 0},BK 2 0) else(.FJ {J with Ab:=some r.1,node:=r.1.found,pc:=2},Yv (Xg r.1.found f))
theorem ML{J:Xc}{C:Xd}(h:J.Ab=some C)(x:Xj)(f:Int):(Xx.FJ (J.GH x f).1,(J.GH x f).2)=Pa J f (C.step x):=by
 unfold Xc.GH Pa Xc.done;rw[h];unfold AH DN;simp only;generalize C.step x=r;obtain⟨C1,c,b⟩:=r;cases b with
 |true=>rfl
 |false=>
  simp only[cond_false,Bool.false_eq_true,if_false];by_cases e:C1.found.sl=0
  ·rw[if_pos e,show(C1.found.sl==0)=true from by simp[e]];rfl
  ·rw[if_neg e,show(C1.found.sl==0)=false from by simp[e]];rfl
theorem QR{v:Vw}{L:List (Int × Int)}(op:A3)(x:Xj)(hk:op.kind=8)(h:UY v L):
  Yc (λa v'=>a=(Ca L op.key op).1/\UY v' (Ca L op.key op).2) 0 (9*L.length+80) v (.FJ ((Xc.new op).next x).1) ((Xc.new op).next x).2:=by
 obtain⟨kp,l,h1,rfl⟩:=h
 obtain⟨k,ky,vl,tl⟩:=op
 obtain rfl:k=8:=hk
 have hlen:(Bi v (l 0)).length=(l 0).length:=List.length_map ..
 rw[hlen]
 have e0:(Xx.FJ ((Xc.new ⟨8,ky,vl,tl⟩).next x).1,((Xc.new ⟨8,ky,vl,tl⟩).next x).2)=Pa {Xc.new ⟨8,ky,vl,tl⟩ with pc:=1} 1 ((Xd.new ky).step x):=ML (J:={Xc.new ⟨8,ky,vl,tl⟩ with pc:=1,Ab:=some (Xd.new ky)}) rfl x 1
 show Yc _ _ _ _ (Xx.FJ ((Xc.new ⟨8,ky,vl,tl⟩).next x).1,((Xc.new ⟨8,ky,vl,tl⟩).next x).2).1 (Xx.FJ ((Xc.new ⟨8,ky,vl,tl⟩).next x).1,((Xc.new ⟨8,ky,vl,tl⟩).next x).2).2
 rw[e0]
 refine .more (n:=1+9*(l 0).length+71) (a:=0) (GA (n:=1) (S:=λC=>.FJ {Xc.new ⟨8,ky,vl,tl⟩ with pc:=1,Ab:=some C}) (K:=Pa {Xc.new ⟨8,ky,vl,tl⟩ with pc:=1} 1) (λC x=>ML (J:={Xc.new ⟨8,ky,vl,tl⟩ with pc:=1,Ab:=some C}) rfl x 1) (λC c _=>rfl) h1.DM (λh=>absurd rfl h) x λC v' ce=>?_) (Nat.le_refl _) Zo
 obtain rfl:v'=v:=ce.JW.same rfl
 obtain⟨pre,post,f1,f2,f3⟩:=ce.Uz
 rw[ZB h1.DM Zd Zd] at f1
 have hkp:∀t∈l 0,(v'.cell t 0).nm=kp t:=h1.DM.key 0 Zd Zd
 have lo:∀t∈pre,(v'.cell t 0).nm<ky:=λt ht=>by rw[hkp t (by rw[f1];simp[ht])];exact f2 t ht
 rcases f3 with⟨s,r,rfl,g1,g2⟩|⟨g1,g2⟩
 ·have hs:s∈l 0:=by rw[f1];simp
  have hs0:=h1.DM.held Zd Zd hs;unfold Pa;rw[g2];simp only[Bool.false_eq_true,if_false,hs0.1];have hr:v'.Rf ⟨s,v'.As s,0,0,false⟩:=⟨hs0.1,hs0.2,rfl⟩;refine .ld (Yd hr Zd Zd) (Yp hs0.1) ?_;refine .dn ⟨?_,?_⟩
  ·rw[f1,Dt lo (by rw[hkp s hs];exact g1)];rfl
  ·refine⟨kp,l,h1,?_⟩;rw[f1,Dt lo (by rw[hkp s hs];exact g1)];rfl
 ·unfold Pa;rw[g2];simp only[Bool.false_eq_true,if_false,show Xe.zero.sl=0 from rfl,if_true];have no:∀s r,post=s::r->ky<(v'.cell s 0).nm:=λs r e=>by rw[hkp s (by rw[f1,e];simp)];exact g1 s r e
  refine .dn ⟨?_,⟨kp,l,h1,?_⟩⟩
  ·rw[f1,Fs lo no];rfl
  ·rw[f1,Fs lo no];rfl
end
end Go.Proofs.YtaipogljokblkaaGreatDoor
