/- Core: RK. -/
import Derived.Test.YtaipogljokblkaaGreatDoorZ19
set_option linter.all false
set_option maxRecDepth 100000
set_option maxHeartbeats 8000000
namespace Go.Proofs.YtaipogljokblkaaGreatDoor
open Go Go.RowKit
set_option linter.unusedSimpArgs false
set_option linter.unusedVariables false
set_option linter.unusedSectionVars false
theorem erase_at {v:Xp}:∀ {l:List Xp} {k:Nat},l.findIdx? (fun n=>n==v) = some k→k < l.length∧l.take k++l.drop (k+1) = l.erase v
 | [],k,h=>by simp at h
 | a :: l,k,h=>by
  rw [List.findIdx?_cons] at h
  cases ha:(a==v) with
  | true =>
   rw [ha] at h
   simp at h
   subst h
   refine ⟨by simp,?_⟩
   rw [List.erase_cons,ha]
   simp
  | false =>
   rw [ha] at h
   simp only [Bool.false_eq_true,if_false,Option.map_eq_some_iff] at h
   obtain ⟨j,hj,rfl⟩:=h
   obtain ⟨h1,h2⟩:=erase_at hj
   refine ⟨by simpa using h1,?_⟩
   rw [List.erase_cons,ha]
   simpa using h2
theorem noteAt_mem {v:Xp} {l:List Xp} (h:v∈l):∃ k:Nat,noteAt v l = k∧k < l.length∧l.take k++l.drop (k+1) = l.erase v:=by
 unfold noteAt
 cases hf:l.findIdx? (fun n=>n==v) with
 | none =>
  rw [List.findIdx?_eq_none_iff] at hf
  have:=hf v h
  simp at this
 | some k=>exact ⟨k,rfl,erase_at hf⟩
theorem own_tail {w:World} {g off cap:Nat} {d:Xp} {r:List Xp} (h:Own w 201 7 (.slice (some ⟨g,off,none⟩) (d :: r).length cap) (d :: r).length (rows Xp.l (d :: r))) :
  Own w 201 7 (.slice (some ⟨g,if cap = 1 then off else off+7,none⟩) r.length (cap - 1)) r.length (rows Xp.l r):=by
 rcases h.2 with ⟨h',_⟩ | ⟨g',off',cap',A,R,hv,hk,rfl,hn,hm,hs⟩
 ·cases h'
 ·cases hv
  simp only [List.length_cons] at hn hs
  have hl:(rows Xp.l (d :: r)).length = (r.length+1)*7:=Yt nlen _
  have hl2:(rows Xp.l r).length = r.length*7:=Yt nlen _
  refine ⟨hl2,.inr ?_⟩
  by_cases hc:cap = 1
  ·obtain rfl:r = []:=List.eq_nil_of_length_eq_zero (by omega)
   rw [if_pos hc]
   refine ⟨g,A.length,cap - 1,A,Xp.l d++R,rfl,?_,rfl,by simp,by omega,by subst hc;simp⟩
   have e:rows Xp.l [d] = Xp.l d:=by simp [rows]
   rw [e] at hk
   exact hk
  ·rw [if_neg hc]
   refine ⟨g,A.length+7,cap - 1,A++Xp.l d,R,rfl,?_,by rw [List.length_append,nlen],by omega,by omega,?_⟩
   ·rw [rows_cons] at hk
    have e:A++Xp.l d++(rows Xp.l r++R) = A++(Xp.l d++rows Xp.l r++R):=by simp only [List.append_assoc]
    rw [e]
    exact hk
   ·rw [hl2];rw [hl] at hs;rw [Nat.sub_mul];omega
theorem set99 (R:Xa) (n:Int):R.l.toArray.setIfInBounds 99 (.int .i64 n) = ({ R with freed:=n }:Xa).l.toArray:=by kernel_rfl
theorem RB.freed {w:World} {g:Nat} {R:Xa} {ns ds:List Xp} {ss:List Xf} (h:RB w g R ns ds ss) (n:Int):RB (w.setCell ⟨g,99,none⟩ (.int .i64 n)) g { R with freed:=n } ns ds ss∧Chg [g] w (w.setCell ⟨g,99,none⟩ (.int .i64 n)):=by
 have hg2:=Xq w g 99 (.int .i64 n)
 exact ⟨⟨by rw [← set99];exact h.bk.set_ 99 _,h.on.grown hg2 (Or.inr h.gn),h.od.grown hg2 (Or.inr h.gd),h.os.grown hg2 (Or.inr h.gs),h.gn,h.gd,h.gs,h.nd,h.ns,h.ds⟩,
  Chg.of_grown (b:=0) hg2 fun b e=>by injection e with e;simp [e]⟩
theorem took_16 (R:Xa) (ns r:List Xp) (d:Xp) (ss:List Xf) (x:Xi) (hs:R.step = 16):MR.took ⟨R,ns,d :: r,ss⟩ x = MR.reap ⟨{ R with freed:=wr (R.freed+1) },ns.erase d,r,ss⟩:=by
 unfold MR.took
 simp only [hs]
 rfl
theorem rcells2 {w:World} {g:Nat} {R:Xa} (h:Bk w g 171 R.l.toArray):w.cell? ⟨g,99,none⟩ = some (.int .i64 R.freed):=rcell h 99 _ (by kernel_rfl)
theorem tookScan16_any (w:World) (g:Nat) (R:Xa) (ns r:List Xp) (d:Xp) (ss:List Xf) (x:Xi) (h:RB w g R ns (d :: r) ss) (ht:Thr R) (hl:ns.length≤100000) (hl2:r.length≤90000) (hd:d∈ns) (hs:R.step = 16) :
  Calls Tryz.prog 81 #[.pointer (some ⟨g,0,none⟩),.agg x.l.toArray] w (RetR w g (Yc g R) (.tuple #[]) (MR.took ⟨R,ns,d :: r,ss⟩ x)):=by
 (have c18:=cell18 h.bk;rw [hs] at c18;obtain ⟨⟨x0,x1,x2,x3,x4⟩,x5⟩:=x;show Calls Tryz.prog 81 #[.pointer (some ⟨g,0,none⟩),.agg #[.int .i64 x0,.int .i64 x1,.int .i64 x2,.int .i64 x3,.bool x4,.bool x5]] w _;have HH:=Lib.hid (h.chg (w':=(w.alloc (.cells #[.int .i64 x0,.int .i64 x1,.int .i64 x2,.int .i64 x3,.bool x4,.bool x5] 108))) (F:=[]) (Chg.of_below ((Below.refl _ _).alloc (Nat.le_refl _) _)) (fun _ _=>List.not_mem_nil));have HC:Hid (Chg [] w (w.alloc (.cells #[.int .i64 x0,.int .i64 x1,.int .i64 x2,.int .i64 x3,.bool x4,.bool x5] 108))):=Lib.hid (Chg.of_below ((Below.refl _ _).alloc (Nat.le_refl _) _));have X0:Bk (w.alloc (.cells #[.int .i64 x0,.int .i64 x1,.int .i64 x2,.int .i64 x3,.bool x4,.bool x5] 108)) w.heap.size 108 #[.int .i64 x0,.int .i64 x1,.int .i64 x2,.int .i64 x3,.bool x4,.bool x5]:=Bk.at_ rfl;have hgl:=h.bk.lt;have H0:=Lib.hid h;clear h)
 have HM:=Lib.hid (took_16 R ns r d ss ⟨⟨x0,x1,x2,x3,x4⟩,x5⟩ hs)
 obtain ⟨k,hka,hkl,hke⟩:=noteAt_mem hd
 have HK:=Lib.hid (And.intro hka hke)
 clear hka hke
 obtain ⟨na,nc,en,_⟩:=Yq H0.out.on
 obtain ⟨db,dof,dc,ed,hdc⟩:=own_form H0.out.od (by simp)
 go_enter Tryz.func81,Tryz.ntmps81
 go_upto_region 18 with (fail)
 have X1:=X0.drew
 have H1:Hid (RB (w.alloc (.cells #[.int .i64 x0,.int .i64 x1,.int .i64 x2,.int .i64 x3,.bool x4,.bool x5] 108)).drew g R ns (d :: r) ss):=Lib.hid (HH.out.chg (F:=[]) (Chg.of_below (Below.refl _ _).drew) (fun _ _=>List.not_mem_nil))
 have C1:Hid (Chg [] w (w.alloc (.cells #[.int .i64 x0,.int .i64 x1,.int .i64 x2,.int .i64 x3,.bool x4,.bool x5] 108)).drew):=Lib.hid (HC.out.trans (Chg.of_below (Below.refl _ _).drew))
 have ho:=H1.out.od
 have hon:=H1.out.on
 rw [ed] at ho
 rw [en] at hon
 have hrg:=own_row nlen ho 0 (by simp)
 rw [Nat.zero_mul,Nat.add_zero] at hrg
 simp only [List.getElem_cons_zero] at hrg
 have hdr:=range7 hrg
 have hsN:=Sl.of_own2 hon
 have cc:=rcells H1.out.bk
 have c98:=cc.2.2.2.2
 have c45:=cc.2.2.1
 rw [en] at c98
 rw [ed] at c45
 simp only [List.length_cons] at c45 hdc
 have hn:¬ (r.length+1 = 0):=by omega
 have H2:=Lib.hid (indexNote_any d na nc ns (w.alloc (.cells #[.int .i64 x0,.int .i64 x1,.int .i64 x2,.int .i64 x3,.bool x4,.bool x5] 108)).drew hsN hl)
 rw [HK.out.1] at H2
 clear cc hrg ho hon hsN HH HC X0 H0 c18
 refine X2 (fun w'=>w'.cell? ⟨g,98,none⟩ = some (.slice na ns.length nc)∧w'.cell? ⟨g,45,none⟩ = some (.slice (some ⟨db,dof,none⟩) (r.length+1) dc)∧w'.cell? ⟨db,dof,none⟩ = some (.int .i64 d.ref.sl)∧w'.cell? ⟨db,dof+1,none⟩ = some (.int .i64 d.ref.gn)∧w'.cell? ⟨db,dof+2,none⟩ = some (.int .i64 d.ref.tg)∧w'.cell? ⟨db,dof+3,none⟩ = some (.int .i64 d.ref.nm)∧w'.cell? ⟨db,dof+4,none⟩ = some (.bool d.ref.mark)∧w'.cell? ⟨db,dof+5,none⟩ = some (.int .i64 d.birth)∧w'.cell? ⟨db,dof+6,none⟩ = some (.int .i64 d.death)) 12 (by kernel_rfl) ⟨c98,c45,hdr⟩ (fun hS=>?_)
 clear c98 c45 hdr
 generalize (w.alloc (.cells #[.int .i64 x0,.int .i64 x1,.int .i64 x2,.int .i64 x3,.bool x4,.bool x5] 108)).drew = w0 at *
 ((try simp only [Act.put,List.setIfInBounds_toArray,List.set_cons_succ,List.set_cons_zero]);refine vT (fuel:=2) hS [0,1,2,3,4,5,6,7,8,9,10] ?_;simp only [Xu,Xj,List.toList_toArray];(repeat (first | go_big_quiet_skip | (go_big_quiet_want;first | (go_big_quiet_op;go_big_quiet_on) | (apply Exists.intro;refine ⟨fun w' hS'=>?_,?_⟩;(· (obtain ⟨c98,c45,q0,q1,q2,q3,q4,q5,q6⟩:=hS';go_simp;first | done | rfl | exact ⟨rfl,rfl⟩));go_big_quiet_on;simp only [Act.put,List.setIfInBounds_toArray,List.set_cons_succ,List.set_cons_zero]))));refine wpQuiet_nil ?_;(try dsimp only))
 (refine Xh 11 (by kernel_rfl) (fun K hK=>?_);simp only [Xj,List.toList_toArray])
 go_wp2_with fail
 refine H2.out.mono ?_
 rintro e w1 ⟨rfl,hb1⟩
 have hB1:=Lib.hid (H1.out.chg (F:=[]) (Chg.of_below hb1) (fun _ _=>List.not_mem_nil))
 have C2:=Lib.hid (C1.out.trans (Chg.of_below hb1))
 clear H1 C1 X1 H2 hb1
 have e1:=rcells hB1.out.bk
 have c98:=e1.2.2.2.2
 have c45:=e1.2.2.1
 rw [en] at c98
 rw [ed] at c45
 simp only [List.length_cons] at c45
 have ho:=hB1.out.od
 rw [ed] at ho
 have hrg:=own_row nlen ho 0 (by simp)
 rw [Nat.zero_mul,Nat.add_zero] at hrg
 simp only [List.getElem_cons_zero] at hrg
 have hdr:=range7 hrg
 clear e1 ho hrg
 go_wp2_with fail
 refine hK.out _ _ (fun _=>⟨c98,c45,hdr⟩) ?_
 clear hK hS
 (refine Xh 12 (by kernel_rfl) (fun K hK=>?_);simp only [Xj,List.toList_toArray])
 go_wp2_with fail
 refine hK.out _ _ (fun h=>absurd h (by omega)) ?_
 clear hK
 refine X9 (by kernel_rfl) ?_ _
 clear c98 c45 hdr
 have H3:=Lib.hid (deleteNote_any w1 R.notes.v ns hB1.out.on hl k hkl)
 rw [en] at H3
 have c98:=rcell hB1.out.bk 98 _ (show _ = some R.notes.v by kernel_rfl)
 rw [en] at c98
 have EN:=Lib.hid en;have ED:=Lib.hid ed
 clear en ed hd
 go_wp2_with fail
 refine H3.out.mono ?_
 rintro e w2 ⟨v',rfl,ho,hg,hf⟩
 rw [HK.out.2] at ho
 obtain ⟨va,vc,rfl,_⟩:=Yq ho
 rw [← EN.out] at hg hf
 have b2:Bk w2 g 171 R.l.toArray:=hB1.out.bk.grown hg (fun e=>hB1.out.gn e.symm)
 have HN:=Lib.hid (hB1.out.notes (u:=⟨va,(ns.erase d).length,vc⟩) ho hg hf)
 have HF:=Lib.hid hf
 have c98:=rcell b2 98 _ (show _ = some R.notes.v by kernel_rfl)
 have c99:=rcells2 b2
 have c45:=rcell b2 45 _ (show _ = some R.doomed.v by kernel_rfl)
 rw [ED.out] at c45
 simp only [List.length_cons] at c45
 have f98:=b2.free 98
 have f99:=b2.free 99
 have f45:=b2.free 45
 clear ho hg hf b2
 generalize (ns.erase d).length = nl at *
 go_wp2_with fail
 ·obtain rfl:dc = 1:=by assumption
  (have F1:=HN.out.1.freed (wr (R.freed+1));have hod:=F1.1.od;rw [show ({ ({ R with notes:=⟨va,nl,vc⟩ }:Xa) with freed:=wr (R.freed+1) }:Xa).doomed.v = _ from ED.out] at hod;have hot:=own_tail hod;rw [if_pos rfl] at hot;have eb:R.doomed.v.ownBlock = some db:=(by rw [ED.out];rfl);have D1:=F1.1.doom (u:=⟨some ⟨db,dof,none⟩,r.length,1 - 1⟩) (ds':=r) hot (fun e=>F1.1.gd (eb.trans e)) (fun b h1 h2=>F1.1.nd b h1 (eb.trans h2)) (fun b h1=>F1.1.ds b (eb.trans h1));have CC:Chg (Yc g R) w _:=((C2.out.mono (fun x hx=>by cases hx)).trans HN.out.2).trans ((chg_g F1.2 (Xk.2 (Or.inl rfl))).trans (chg_g D1.2 (Xk.2 (Or.inl rfl))));rw [wr_is] at D1 CC;have hz:=C2.out.size;have HFF:=Lib.hid (fun (x:Nat) (hx:x∈Yc g { ({ ({ R with notes:=⟨va,nl,vc⟩ }:Xa) with freed:=wrap64 (R.freed+1) }:Xa) with doomed:=⟨some ⟨db,dof,none⟩,r.length,1 - 1⟩ })=>show x∈Yc g R∨w.heap.size≤x from (by rcases Xk.1 hx with h1 | h1 | h1 | h1;(· exact Or.inl (Xk.2 (Or.inl h1)));(· rcases HF.out x h1 with h2 | h2;(· exact Or.inl (Xk.2 (Or.inr (Or.inl h2))));(· right;omega));(· exact Or.inl (Xk.2 (Or.inr (Or.inr (Or.inl (eb.trans h1))))));(· exact Or.inl (Xk.2 (Or.inr (Or.inr (Or.inr h1)))))));have HD:=Lib.hid (And.intro D1.1 CC);clear F1 hod hot eb D1 CC hz c98 c99 c45 f98 f99 f45;refine (reap_any _ g _ (ns.erase d) r ss HD.out.1 ht (by omega)).mono ?_;intro e w5 hr;have hr2:RetR w g (Yc g R) (.tuple #[]) (MR.reap ⟨{ R with freed:=wr (R.freed+1) },ns.erase d,r,ss⟩) e w5:=(by rw [wr_is];refine RetR.after HD.out.2 HFF.out ?_;cases r with | nil=>exact hr | cons d2 r2=>exact hr);rw [← HM.out] at hr2;obtain rfl:=hr2.1;have HR:=Lib.hid hr2;clear hr hr2;go_wp2_with fail;go_end0;exact HR.out)
 ·(have F1:=HN.out.1.freed (wr (R.freed+1));have hod:=F1.1.od;rw [show ({ ({ R with notes:=⟨va,nl,vc⟩ }:Xa) with freed:=wr (R.freed+1) }:Xa).doomed.v = _ from ED.out] at hod;have hot:=own_tail hod;rw [if_neg (show ¬ dc = 1 by assumption)] at hot;have eb:R.doomed.v.ownBlock = some db:=(by rw [ED.out];rfl);have D1:=F1.1.doom (u:=⟨some ⟨db,dof+7,none⟩,r.length,dc - 1⟩) (ds':=r) hot (fun e=>F1.1.gd (eb.trans e)) (fun b h1 h2=>F1.1.nd b h1 (eb.trans h2)) (fun b h1=>F1.1.ds b (eb.trans h1));have CC:Chg (Yc g R) w _:=((C2.out.mono (fun x hx=>by cases hx)).trans HN.out.2).trans ((chg_g F1.2 (Xk.2 (Or.inl rfl))).trans (chg_g D1.2 (Xk.2 (Or.inl rfl))));rw [wr_is] at D1 CC;have hz:=C2.out.size;have HFF:=Lib.hid (fun (x:Nat) (hx:x∈Yc g { ({ ({ R with notes:=⟨va,nl,vc⟩ }:Xa) with freed:=wrap64 (R.freed+1) }:Xa) with doomed:=⟨some ⟨db,dof+7,none⟩,r.length,dc - 1⟩ })=>show x∈Yc g R∨w.heap.size≤x from (by rcases Xk.1 hx with h1 | h1 | h1 | h1;(· exact Or.inl (Xk.2 (Or.inl h1)));(· rcases HF.out x h1 with h2 | h2;(· exact Or.inl (Xk.2 (Or.inr (Or.inl h2))));(· right;omega));(· exact Or.inl (Xk.2 (Or.inr (Or.inr (Or.inl (eb.trans h1))))));(· exact Or.inl (Xk.2 (Or.inr (Or.inr (Or.inr h1)))))));have HD:=Lib.hid (And.intro D1.1 CC);clear F1 hod hot eb D1 CC hz c98 c99 c45 f98 f99 f45;refine (reap_any _ g _ (ns.erase d) r ss HD.out.1 ht (by omega)).mono ?_;intro e w5 hr;have hr2:RetR w g (Yc g R) (.tuple #[]) (MR.reap ⟨{ R with freed:=wr (R.freed+1) },ns.erase d,r,ss⟩) e w5:=(by rw [wr_is];refine RetR.after HD.out.2 HFF.out ?_;cases r with | nil=>exact hr | cons d2 r2=>exact hr);rw [← HM.out] at hr2;obtain rfl:=hr2.1;have HR:=Lib.hid hr2;clear hr hr2;go_wp2_with fail;go_end0;exact HR.out)
end Go.Proofs.YtaipogljokblkaaGreatDoor
