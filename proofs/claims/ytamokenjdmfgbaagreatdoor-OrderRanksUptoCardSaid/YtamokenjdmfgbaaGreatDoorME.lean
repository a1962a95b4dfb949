/- What the small functions of the program answer; the store of functions and types; no condition beyond bounds on lengths. -/
import Derived.Test.YtamokenjdmfgbaaGreatDoorProg
import Derived.Test.YtamokenjdmfgbaaGreatDoorMB
import Derived.Test.YtamokenjdmfgbaaGreatDoorMC
import Derived.KernelRfl
namespace Go.Am
open Go.Proofs
noncomputable def infoT : T TypeInfo := .node (some Tryz.t0) (.node (some Tryz.t1) (.node (some Tryz.t3) (.node (some Tryz.t7) (.node (some Tryz.t15) (.node (some Tryz.t31) (.node (some Tryz.t63) (.node (some Tryz.t127) (.node (some Tryz.t255) .nil .nil) (.node (some Tryz.t383) .nil .nil)) (.node (some Tryz.t191) (.node (some Tryz.t319) .nil .nil) (.node (some Tryz.t447) .nil .nil))) (.node (some Tryz.t95) (.node (some Tryz.t159) (.node (some Tryz.t287) .nil .nil) (.node (some Tryz.t415) .nil .nil)) (.node (some Tryz.t223) (.node (some Tryz.t351) .nil .nil) .nil))) (.node (some Tryz.t47) (.node (some Tryz.t79) (.node (some Tryz.t143) (.node (some Tryz.t271) .nil .nil) (.node (some Tryz.t399) .nil .nil)) (.node (some Tryz.t207) (.node (some Tryz.t335) .nil .nil) .nil)) (.node (some Tryz.t111) (.node (some Tryz.t175) (.node (some Tryz.t303) .nil .nil) (.node (some Tryz.t431) .nil .nil)) (.node (some Tryz.t239) (.node (some Tryz.t367) .nil .nil) .nil)))) (.node (some Tryz.t23) (.node (some Tryz.t39) (.node (some Tryz.t71) (.node (some Tryz.t135) (.node (some Tryz.t263) .nil .nil) (.node (some Tryz.t391) .nil .nil)) (.node (some Tryz.t199) (.node (some Tryz.t327) .nil .nil) (.node (some Tryz.t455) .nil .nil))) (.node (some Tryz.t103) (.node (some Tryz.t167) (.node (some Tryz.t295) .nil .nil) (.node (some Tryz.t423) .nil .nil)) (.node (some Tryz.t231) (.node (some Tryz.t359) .nil .nil) .nil))) (.node (some Tryz.t55) (.node (some Tryz.t87) (.node (some Tryz.t151) (.node (some Tryz.t279) .nil .nil) (.node (some Tryz.t407) .nil .nil)) (.node (some Tryz.t215) (.node (some Tryz.t343) .nil .nil) .nil)) (.node (some Tryz.t119) (.node (some Tryz.t183) (.node (some Tryz.t311) .nil .nil) (.node (some Tryz.t439) .nil .nil)) (.node (some Tryz.t247) (.node (some Tryz.t375) .nil .nil) .nil))))) (.node (some Tryz.t11) (.node (some Tryz.t19) (.node (some Tryz.t35) (.node (some Tryz.t67) (.node (some Tryz.t131) (.node (some Tryz.t259) .nil .nil) (.node (some Tryz.t387) .nil .nil)) (.node (some Tryz.t195) (.node (some Tryz.t323) .nil .nil) (.node (some Tryz.t451) .nil .nil))) (.node (some Tryz.t99) (.node (some Tryz.t163) (.node (some Tryz.t291) .nil .nil) (.node (some Tryz.t419) .nil .nil)) (.node (some Tryz.t227) (.node (some Tryz.t355) .nil .nil) .nil))) (.node (some Tryz.t51) (.node (some Tryz.t83) (.node (some Tryz.t147) (.node (some Tryz.t275) .nil .nil) (.node (some Tryz.t403) .nil .nil)) (.node (some Tryz.t211) (.node (some Tryz.t339) .nil .nil) .nil)) (.node (some Tryz.t115) (.node (some Tryz.t179) (.node (some Tryz.t307) .nil .nil) (.node (some Tryz.t435) .nil .nil)) (.node (some Tryz.t243) (.node (some Tryz.t371) .nil .nil) .nil)))) (.node (some Tryz.t27) (.node (some Tryz.t43) (.node (some Tryz.t75) (.node (some Tryz.t139) (.node (some Tryz.t267) .nil .nil) (.node (some Tryz.t395) .nil .nil)) (.node (some Tryz.t203) (.node (some Tryz.t331) .nil .nil) .nil)) (.node (some Tryz.t107) (.node (some Tryz.t171) (.node (some Tryz.t299) .nil .nil) (.node (some Tryz.t427) .nil .nil)) (.node (some Tryz.t235) (.node (some Tryz.t363) .nil .nil) .nil))) (.node (some Tryz.t59) (.node (some Tryz.t91) (.node (some Tryz.t155) (.node (some Tryz.t283) .nil .nil) (.node (some Tryz.t411) .nil .nil)) (.node (some Tryz.t219) (.node (some Tryz.t347) .nil .nil) .nil)) (.node (some Tryz.t123) (.node (some Tryz.t187) (.node (some Tryz.t315) .nil .nil) (.node (some Tryz.t443) .nil .nil)) (.node (some Tryz.t251) (.node (some Tryz.t379) .nil .nil) .nil)))))) (.node (some Tryz.t5) (.node (some Tryz.t9) (.node (some Tryz.t17) (.node (some Tryz.t33) (.node (some Tryz.t65) (.node (some Tryz.t129) (.node (some Tryz.t257) .nil .nil) (.node (some Tryz.t385) .nil .nil)) (.node (some Tryz.t193) (.node (some Tryz.t321) .nil .nil) (.node (some Tryz.t449) .nil .nil))) (.node (some Tryz.t97) (.node (some Tryz.t161) (.node (some Tryz.t289) .nil .nil) (.node (some Tryz.t417) .nil .nil)) (.node (some Tryz.t225) (.node (some Tryz.t353) .nil .nil) .nil))) (.node (some Tryz.t49) (.node (some Tryz.t81) (.node (some Tryz.t145) (.node (some Tryz.t273) .nil .nil) (.node (some Tryz.t401) .nil .nil)) (.node (some Tryz.t209) (.node (some Tryz.t337) .nil .nil) .nil)) (.node (some Tryz.t113) (.node (some Tryz.t177) (.node (some Tryz.t305) .nil .nil) (.node (some Tryz.t433) .nil .nil)) (.node (some Tryz.t241) (.node (some Tryz.t369) .nil .nil) .nil)))) (.node (some Tryz.t25) (.node (some Tryz.t41) (.node (some Tryz.t73) (.node (some Tryz.t137) (.node (some Tryz.t265) .nil .nil) (.node (some Tryz.t393) .nil .nil)) (.node (some Tryz.t201) (.node (some Tryz.t329) .nil .nil) (.node (some Tryz.t457) .nil .nil))) (.node (some Tryz.t105) (.node (some Tryz.t169) (.node (some Tryz.t297) .nil .nil) (.node (some Tryz.t425) .nil .nil)) (.node (some Tryz.t233) (.node (some Tryz.t361) .nil .nil) .nil))) (.node (some Tryz.t57) (.node (some Tryz.t89) (.node (some Tryz.t153) (.node (some Tryz.t281) .nil .nil) (.node (some Tryz.t409) .nil .nil)) (.node (some Tryz.t217) (.node (some Tryz.t345) .nil .nil) .nil)) (.node (some Tryz.t121) (.node (some Tryz.t185) (.node (some Tryz.t313) .nil .nil) (.node (some Tryz.t441) .nil .nil)) (.node (some Tryz.t249) (.node (some Tryz.t377) .nil .nil) .nil))))) (.node (some Tryz.t13) (.node (some Tryz.t21) (.node (some Tryz.t37) (.node (some Tryz.t69) (.node (some Tryz.t133) (.node (some Tryz.t261) .nil .nil) (.node (some Tryz.t389) .nil .nil)) (.node (some Tryz.t197) (.node (some Tryz.t325) .nil .nil) (.node (some Tryz.t453) .nil .nil))) (.node (some Tryz.t101) (.node (some Tryz.t165) (.node (some Tryz.t293) .nil .nil) (.node (some Tryz.t421) .nil .nil)) (.node (some Tryz.t229) (.node (some Tryz.t357) .nil .nil) .nil))) (.node (some Tryz.t53) (.node (some Tryz.t85) (.node (some Tryz.t149) (.node (some Tryz.t277) .nil .nil) (.node (some Tryz.t405) .nil .nil)) (.node (some Tryz.t213) (.node (some Tryz.t341) .nil .nil) .nil)) (.node (some Tryz.t117) (.node (some Tryz.t181) (.node (some Tryz.t309) .nil .nil) (.node (some Tryz.t437) .nil .nil)) (.node (some Tryz.t245) (.node (some Tryz.t373) .nil .nil) .nil)))) (.node (some Tryz.t29) (.node (some Tryz.t45) (.node (some Tryz.t77) (.node (some Tryz.t141) (.node (some Tryz.t269) .nil .nil) (.node (some Tryz.t397) .nil .nil)) (.node (some Tryz.t205) (.node (some Tryz.t333) .nil .nil) .nil)) (.node (some Tryz.t109) (.node (some Tryz.t173) (.node (some Tryz.t301) .nil .nil) (.node (some Tryz.t429) .nil .nil)) (.node (some Tryz.t237) (.node (some Tryz.t365) .nil .nil) .nil))) (.node (some Tryz.t61) (.node (some Tryz.t93) (.node (some Tryz.t157) (.node (some Tryz.t285) .nil .nil) (.node (some Tryz.t413) .nil .nil)) (.node (some Tryz.t221) (.node (some Tryz.t349) .nil .nil) .nil)) (.node (some Tryz.t125) (.node (some Tryz.t189) (.node (some Tryz.t317) .nil .nil) (.node (some Tryz.t445) .nil .nil)) (.node (some Tryz.t253) (.node (some Tryz.t381) .nil .nil) .nil))))))) (.node (some Tryz.t2) (.node (some Tryz.t4) (.node (some Tryz.t8) (.node (some Tryz.t16) (.node (some Tryz.t32) (.node (some Tryz.t64) (.node (some Tryz.t128) (.node (some Tryz.t256) .nil .nil) (.node (some Tryz.t384) .nil .nil)) (.node (some Tryz.t192) (.node (some Tryz.t320) .nil .nil) (.node (some Tryz.t448) .nil .nil))) (.node (some Tryz.t96) (.node (some Tryz.t160) (.node (some Tryz.t288) .nil .nil) (.node (some Tryz.t416) .nil .nil)) (.node (some Tryz.t224) (.node (some Tryz.t352) .nil .nil) .nil))) (.node (some Tryz.t48) (.node (some Tryz.t80) (.node (some Tryz.t144) (.node (some Tryz.t272) .nil .nil) (.node (some Tryz.t400) .nil .nil)) (.node (some Tryz.t208) (.node (some Tryz.t336) .nil .nil) .nil)) (.node (some Tryz.t112) (.node (some Tryz.t176) (.node (some Tryz.t304) .nil .nil) (.node (some Tryz.t432) .nil .nil)) (.node (some Tryz.t240) (.node (some Tryz.t368) .nil .nil) .nil)))) (.node (some Tryz.t24) (.node (some Tryz.t40) (.node (some Tryz.t72) (.node (some Tryz.t136) (.node (some Tryz.t264) .nil .nil) (.node (some Tryz.t392) .nil .nil)) (.node (some Tryz.t200) (.node (some Tryz.t328) .nil .nil) (.node (some Tryz.t456) .nil .nil))) (.node (some Tryz.t104) (.node (some Tryz.t168) (.node (some Tryz.t296) .nil .nil) (.node (some Tryz.t424) .nil .nil)) (.node (some Tryz.t232) (.node (some Tryz.t360) .nil .nil) .nil))) (.node (some Tryz.t56) (.node (some Tryz.t88) (.node (some Tryz.t152) (.node (some Tryz.t280) .nil .nil) (.node (some Tryz.t408) .nil .nil)) (.node (some Tryz.t216) (.node (some Tryz.t344) .nil .nil) .nil)) (.node (some Tryz.t120) (.node (some Tryz.t184) (.node (some Tryz.t312) .nil .nil) (.node (some Tryz.t440) .nil .nil)) (.node (some Tryz.t248) (.node (some Tryz.t376) .nil .nil) .nil))))) (.node (some Tryz.t12) (.node (some Tryz.t20) (.node (some Tryz.t36) (.node (some Tryz.t68) (.node (some Tryz.t132) (.node (some Tryz.t260) .nil .nil) (.node (some Tryz.t388) .nil .nil)) (.node (some Tryz.t196) (.node (some Tryz.t324) .nil .nil) (.node (some Tryz.t452) .nil .nil))) (.node (some Tryz.t100) (.node (some Tryz.t164) (.node (some Tryz.t292) .nil .nil) (.node (some Tryz.t420) .nil .nil)) (.node (some Tryz.t228) (.node (some Tryz.t356) .nil .nil) .nil))) (.node (some Tryz.t52) (.node (some Tryz.t84) (.node (some Tryz.t148) (.node (some Tryz.t276) .nil .nil) (.node (some Tryz.t404) .nil .nil)) (.node (some Tryz.t212) (.node (some Tryz.t340) .nil .nil) .nil)) (.node (some Tryz.t116) (.node (some Tryz.t180) (.node (some Tryz.t308) .nil .nil) (.node (some Tryz.t436) .nil .nil)) (.node (some Tryz.t244) (.node (some Tryz.t372) .nil .nil) .nil)))) (.node (some Tryz.t28) (.node (some Tryz.t44) (.node (some Tryz.t76) (.node (some Tryz.t140) (.node (some Tryz.t268) .nil .nil) (.node (some Tryz.t396) .nil .nil)) (.node (some Tryz.t204) (.node (some Tryz.t332) .nil .nil) .nil)) (.node (some Tryz.t108) (.node (some Tryz.t172) (.node (some Tryz.t300) .nil .nil) (.node (some Tryz.t428) .nil .nil)) (.node (some Tryz.t236) (.node (some Tryz.t364) .nil .nil) .nil))) (.node (some Tryz.t60) (.node (some Tryz.t92) (.node (some Tryz.t156) (.node (some Tryz.t284) .nil .nil) (.node (some Tryz.t412) .nil .nil)) (.node (some Tryz.t220) (.node (some Tryz.t348) .nil .nil) .nil)) (.node (some Tryz.t124) (.node (some Tryz.t188) (.node (some Tryz.t316) .nil .nil) (.node (some Tryz.t444) .nil .nil)) (.node (some Tryz.t252) (.node (some Tryz.t380) .nil .nil) .nil)))))) (.node (some Tryz.t6) (.node (some Tryz.t10) (.node (some Tryz.t18) (.node (some Tryz.t34) (.node (some Tryz.t66) (.node (some Tryz.t130) (.node (some Tryz.t258) .nil .nil) (.node (some Tryz.t386) .nil .nil)) (.node (some Tryz.t194) (.node (some Tryz.t322) .nil .nil) (.node (some Tryz.t450) .nil .nil))) (.node (some Tryz.t98) (.node (some Tryz.t162) (.node (some Tryz.t290) .nil .nil) (.node (some Tryz.t418) .nil .nil)) (.node (some Tryz.t226) (.node (some Tryz.t354) .nil .nil) .nil))) (.node (some Tryz.t50) (.node (some Tryz.t82) (.node (some Tryz.t146) (.node (some Tryz.t274) .nil .nil) (.node (some Tryz.t402) .nil .nil)) (.node (some Tryz.t210) (.node (some Tryz.t338) .nil .nil) .nil)) (.node (some Tryz.t114) (.node (some Tryz.t178) (.node (some Tryz.t306) .nil .nil) (.node (some Tryz.t434) .nil .nil)) (.node (some Tryz.t242) (.node (some Tryz.t370) .nil .nil) .nil)))) (.node (some Tryz.t26) (.node (some Tryz.t42) (.node (some Tryz.t74) (.node (some Tryz.t138) (.node (some Tryz.t266) .nil .nil) (.node (some Tryz.t394) .nil .nil)) (.node (some Tryz.t202) (.node (some Tryz.t330) .nil .nil) (.node (some Tryz.t458) .nil .nil))) (.node (some Tryz.t106) (.node (some Tryz.t170) (.node (some Tryz.t298) .nil .nil) (.node (some Tryz.t426) .nil .nil)) (.node (some Tryz.t234) (.node (some Tryz.t362) .nil .nil) .nil))) (.node (some Tryz.t58) (.node (some Tryz.t90) (.node (some Tryz.t154) (.node (some Tryz.t282) .nil .nil) (.node (some Tryz.t410) .nil .nil)) (.node (some Tryz.t218) (.node (some Tryz.t346) .nil .nil) .nil)) (.node (some Tryz.t122) (.node (some Tryz.t186) (.node (some Tryz.t314) .nil .nil) (.node (some Tryz.t442) .nil .nil)) (.node (some Tryz.t250) (.node (some Tryz.t378) .nil .nil) .nil))))) (.node (some Tryz.t14) (.node (some Tryz.t22) (.node (some Tryz.t38) (.node (some Tryz.t70) (.node (some Tryz.t134) (.node (some Tryz.t262) .nil .nil) (.node (some Tryz.t390) .nil .nil)) (.node (some Tryz.t198) (.node (some Tryz.t326) .nil .nil) (.node (some Tryz.t454) .nil .nil))) (.node (some Tryz.t102) (.node (some Tryz.t166) (.node (some Tryz.t294) .nil .nil) (.node (some Tryz.t422) .nil .nil)) (.node (some Tryz.t230) (.node (some Tryz.t358) .nil .nil) .nil))) (.node (some Tryz.t54) (.node (some Tryz.t86) (.node (some Tryz.t150) (.node (some Tryz.t278) .nil .nil) (.node (some Tryz.t406) .nil .nil)) (.node (some Tryz.t214) (.node (some Tryz.t342) .nil .nil) .nil)) (.node (some Tryz.t118) (.node (some Tryz.t182) (.node (some Tryz.t310) .nil .nil) (.node (some Tryz.t438) .nil .nil)) (.node (some Tryz.t246) (.node (some Tryz.t374) .nil .nil) .nil)))) (.node (some Tryz.t30) (.node (some Tryz.t46) (.node (some Tryz.t78) (.node (some Tryz.t142) (.node (some Tryz.t270) .nil .nil) (.node (some Tryz.t398) .nil .nil)) (.node (some Tryz.t206) (.node (some Tryz.t334) .nil .nil) .nil)) (.node (some Tryz.t110) (.node (some Tryz.t174) (.node (some Tryz.t302) .nil .nil) (.node (some Tryz.t430) .nil .nil)) (.node (some Tryz.t238) (.node (some Tryz.t366) .nil .nil) .nil))) (.node (some Tryz.t62) (.node (some Tryz.t94) (.node (some Tryz.t158) (.node (some Tryz.t286) .nil .nil) (.node (some Tryz.t414) .nil .nil)) (.node (some Tryz.t222) (.node (some Tryz.t350) .nil .nil) .nil)) (.node (some Tryz.t126) (.node (some Tryz.t190) (.node (some Tryz.t318) .nil .nil) (.node (some Tryz.t446) .nil .nil)) (.node (some Tryz.t254) (.node (some Tryz.t382) .nil .nil) .nil)))))))
noncomputable def funcT : T Func := .node (some Tryz.f0) (.node (some Tryz.f1) (.node (some Tryz.f3) (.node (some Tryz.f7) (.node (some Tryz.f15) (.node (some Tryz.f31) (.node (some Tryz.f63) (.node (some Tryz.f127) (.node (some Tryz.f255) .nil .nil) (.node (some Tryz.f383) .nil .nil)) (.node (some Tryz.f191) (.node (some Tryz.f319) .nil .nil) .nil)) (.node (some Tryz.f95) (.node (some Tryz.f159) (.node (some Tryz.f287) .nil .nil) .nil) (.node (some Tryz.f223) (.node (some Tryz.f351) .nil .nil) .nil))) (.node (some Tryz.f47) (.node (some Tryz.f79) (.node (some Tryz.f143) (.node (some Tryz.f271) .nil .nil) .nil) (.node (some Tryz.f207) (.node (some Tryz.f335) .nil .nil) .nil)) (.node (some Tryz.f111) (.node (some Tryz.f175) (.node (some Tryz.f303) .nil .nil) .nil) (.node (some Tryz.f239) (.node (some Tryz.f367) .nil .nil) .nil)))) (.node (some Tryz.f23) (.node (some Tryz.f39) (.node (some Tryz.f71) (.node (some Tryz.f135) (.node (some Tryz.f263) .nil .nil) .nil) (.node (some Tryz.f199) (.node (some Tryz.f327) .nil .nil) .nil)) (.node (some Tryz.f103) (.node (some Tryz.f167) (.node (some Tryz.f295) .nil .nil) .nil) (.node (some Tryz.f231) (.node (some Tryz.f359) .nil .nil) .nil))) (.node (some Tryz.f55) (.node (some Tryz.f87) (.node (some Tryz.f151) (.node (some Tryz.f279) .nil .nil) .nil) (.node (some Tryz.f215) (.node (some Tryz.f343) .nil .nil) .nil)) (.node (some Tryz.f119) (.node (some Tryz.f183) (.node (some Tryz.f311) .nil .nil) .nil) (.node (some Tryz.f247) (.node (some Tryz.f375) .nil .nil) .nil))))) (.node (some Tryz.f11) (.node (some Tryz.f19) (.node (some Tryz.f35) (.node (some Tryz.f67) (.node (some Tryz.f131) (.node (some Tryz.f259) .nil .nil) (.node (some Tryz.f387) .nil .nil)) (.node (some Tryz.f195) (.node (some Tryz.f323) .nil .nil) .nil)) (.node (some Tryz.f99) (.node (some Tryz.f163) (.node (some Tryz.f291) .nil .nil) .nil) (.node (some Tryz.f227) (.node (some Tryz.f355) .nil .nil) .nil))) (.node (some Tryz.f51) (.node (some Tryz.f83) (.node (some Tryz.f147) (.node (some Tryz.f275) .nil .nil) .nil) (.node (some Tryz.f211) (.node (some Tryz.f339) .nil .nil) .nil)) (.node (some Tryz.f115) (.node (some Tryz.f179) (.node (some Tryz.f307) .nil .nil) .nil) (.node (some Tryz.f243) (.node (some Tryz.f371) .nil .nil) .nil)))) (.node (some Tryz.f27) (.node (some Tryz.f43) (.node (some Tryz.f75) (.node (some Tryz.f139) (.node (some Tryz.f267) .nil .nil) .nil) (.node (some Tryz.f203) (.node (some Tryz.f331) .nil .nil) .nil)) (.node (some Tryz.f107) (.node (some Tryz.f171) (.node (some Tryz.f299) .nil .nil) .nil) (.node (some Tryz.f235) (.node (some Tryz.f363) .nil .nil) .nil))) (.node (some Tryz.f59) (.node (some Tryz.f91) (.node (some Tryz.f155) (.node (some Tryz.f283) .nil .nil) .nil) (.node (some Tryz.f219) (.node (some Tryz.f347) .nil .nil) .nil)) (.node (some Tryz.f123) (.node (some Tryz.f187) (.node (some Tryz.f315) .nil .nil) .nil) (.node (some Tryz.f251) (.node (some Tryz.f379) .nil .nil) .nil)))))) (.node (some Tryz.f5) (.node (some Tryz.f9) (.node (some Tryz.f17) (.node (some Tryz.f33) (.node (some Tryz.f65) (.node (some Tryz.f129) (.node (some Tryz.f257) .nil .nil) (.node (some Tryz.f385) .nil .nil)) (.node (some Tryz.f193) (.node (some Tryz.f321) .nil .nil) .nil)) (.node (some Tryz.f97) (.node (some Tryz.f161) (.node (some Tryz.f289) .nil .nil) .nil) (.node (some Tryz.f225) (.node (some Tryz.f353) .nil .nil) .nil))) (.node (some Tryz.f49) (.node (some Tryz.f81) (.node (some Tryz.f145) (.node (some Tryz.f273) .nil .nil) .nil) (.node (some Tryz.f209) (.node (some Tryz.f337) .nil .nil) .nil)) (.node (some Tryz.f113) (.node (some Tryz.f177) (.node (some Tryz.f305) .nil .nil) .nil) (.node (some Tryz.f241) (.node (some Tryz.f369) .nil .nil) .nil)))) (.node (some Tryz.f25) (.node (some Tryz.f41) (.node (some Tryz.f73) (.node (some Tryz.f137) (.node (some Tryz.f265) .nil .nil) .nil) (.node (some Tryz.f201) (.node (some Tryz.f329) .nil .nil) .nil)) (.node (some Tryz.f105) (.node (some Tryz.f169) (.node (some Tryz.f297) .nil .nil) .nil) (.node (some Tryz.f233) (.node (some Tryz.f361) .nil .nil) .nil))) (.node (some Tryz.f57) (.node (some Tryz.f89) (.node (some Tryz.f153) (.node (some Tryz.f281) .nil .nil) .nil) (.node (some Tryz.f217) (.node (some Tryz.f345) .nil .nil) .nil)) (.node (some Tryz.f121) (.node (some Tryz.f185) (.node (some Tryz.f313) .nil .nil) .nil) (.node (some Tryz.f249) (.node (some Tryz.f377) .nil .nil) .nil))))) (.node (some Tryz.f13) (.node (some Tryz.f21) (.node (some Tryz.f37) (.node (some Tryz.f69) (.node (some Tryz.f133) (.node (some Tryz.f261) .nil .nil) .nil) (.node (some Tryz.f197) (.node (some Tryz.f325) .nil .nil) .nil)) (.node (some Tryz.f101) (.node (some Tryz.f165) (.node (some Tryz.f293) .nil .nil) .nil) (.node (some Tryz.f229) (.node (some Tryz.f357) .nil .nil) .nil))) (.node (some Tryz.f53) (.node (some Tryz.f85) (.node (some Tryz.f149) (.node (some Tryz.f277) .nil .nil) .nil) (.node (some Tryz.f213) (.node (some Tryz.f341) .nil .nil) .nil)) (.node (some Tryz.f117) (.node (some Tryz.f181) (.node (some Tryz.f309) .nil .nil) .nil) (.node (some Tryz.f245) (.node (some Tryz.f373) .nil .nil) .nil)))) (.node (some Tryz.f29) (.node (some Tryz.f45) (.node (some Tryz.f77) (.node (some Tryz.f141) (.node (some Tryz.f269) .nil .nil) .nil) (.node (some Tryz.f205) (.node (some Tryz.f333) .nil .nil) .nil)) (.node (some Tryz.f109) (.node (some Tryz.f173) (.node (some Tryz.f301) .nil .nil) .nil) (.node (some Tryz.f237) (.node (some Tryz.f365) .nil .nil) .nil))) (.node (some Tryz.f61) (.node (some Tryz.f93) (.node (some Tryz.f157) (.node (some Tryz.f285) .nil .nil) .nil) (.node (some Tryz.f221) (.node (some Tryz.f349) .nil .nil) .nil)) (.node (some Tryz.f125) (.node (some Tryz.f189) (.node (some Tryz.f317) .nil .nil) .nil) (.node (some Tryz.f253) (.node (some Tryz.f381) .nil .nil) .nil))))))) (.node (some Tryz.f2) (.node (some Tryz.f4) (.node (some Tryz.f8) (.node (some Tryz.f16) (.node (some Tryz.f32) (.node (some Tryz.f64) (.node (some Tryz.f128) (.node (some Tryz.f256) .nil .nil) (.node (some Tryz.f384) .nil .nil)) (.node (some Tryz.f192) (.node (some Tryz.f320) .nil .nil) .nil)) (.node (some Tryz.f96) (.node (some Tryz.f160) (.node (some Tryz.f288) .nil .nil) .nil) (.node (some Tryz.f224) (.node (some Tryz.f352) .nil .nil) .nil))) (.node (some Tryz.f48) (.node (some Tryz.f80) (.node (some Tryz.f144) (.node (some Tryz.f272) .nil .nil) .nil) (.node (some Tryz.f208) (.node (some Tryz.f336) .nil .nil) .nil)) (.node (some Tryz.f112) (.node (some Tryz.f176) (.node (some Tryz.f304) .nil .nil) .nil) (.node (some Tryz.f240) (.node (some Tryz.f368) .nil .nil) .nil)))) (.node (some Tryz.f24) (.node (some Tryz.f40) (.node (some Tryz.f72) (.node (some Tryz.f136) (.node (some Tryz.f264) .nil .nil) .nil) (.node (some Tryz.f200) (.node (some Tryz.f328) .nil .nil) .nil)) (.node (some Tryz.f104) (.node (some Tryz.f168) (.node (some Tryz.f296) .nil .nil) .nil) (.node (some Tryz.f232) (.node (some Tryz.f360) .nil .nil) .nil))) (.node (some Tryz.f56) (.node (some Tryz.f88) (.node (some Tryz.f152) (.node (some Tryz.f280) .nil .nil) .nil) (.node (some Tryz.f216) (.node (some Tryz.f344) .nil .nil) .nil)) (.node (some Tryz.f120) (.node (some Tryz.f184) (.node (some Tryz.f312) .nil .nil) .nil) (.node (some Tryz.f248) (.node (some Tryz.f376) .nil .nil) .nil))))) (.node (some Tryz.f12) (.node (some Tryz.f20) (.node (some Tryz.f36) (.node (some Tryz.f68) (.node (some Tryz.f132) (.node (some Tryz.f260) .nil .nil) (.node (some Tryz.f388) .nil .nil)) (.node (some Tryz.f196) (.node (some Tryz.f324) .nil .nil) .nil)) (.node (some Tryz.f100) (.node (some Tryz.f164) (.node (some Tryz.f292) .nil .nil) .nil) (.node (some Tryz.f228) (.node (some Tryz.f356) .nil .nil) .nil))) (.node (some Tryz.f52) (.node (some Tryz.f84) (.node (some Tryz.f148) (.node (some Tryz.f276) .nil .nil) .nil) (.node (some Tryz.f212) (.node (some Tryz.f340) .nil .nil) .nil)) (.node (some Tryz.f116) (.node (some Tryz.f180) (.node (some Tryz.f308) .nil .nil) .nil) (.node (some Tryz.f244) (.node (some Tryz.f372) .nil .nil) .nil)))) (.node (some Tryz.f28) (.node (some Tryz.f44) (.node (some Tryz.f76) (.node (some Tryz.f140) (.node (some Tryz.f268) .nil .nil) .nil) (.node (some Tryz.f204) (.node (some Tryz.f332) .nil .nil) .nil)) (.node (some Tryz.f108) (.node (some Tryz.f172) (.node (some Tryz.f300) .nil .nil) .nil) (.node (some Tryz.f236) (.node (some Tryz.f364) .nil .nil) .nil))) (.node (some Tryz.f60) (.node (some Tryz.f92) (.node (some Tryz.f156) (.node (some Tryz.f284) .nil .nil) .nil) (.node (some Tryz.f220) (.node (some Tryz.f348) .nil .nil) .nil)) (.node (some Tryz.f124) (.node (some Tryz.f188) (.node (some Tryz.f316) .nil .nil) .nil) (.node (some Tryz.f252) (.node (some Tryz.f380) .nil .nil) .nil)))))) (.node (some Tryz.f6) (.node (some Tryz.f10) (.node (some Tryz.f18) (.node (some Tryz.f34) (.node (some Tryz.f66) (.node (some Tryz.f130) (.node (some Tryz.f258) .nil .nil) (.node (some Tryz.f386) .nil .nil)) (.node (some Tryz.f194) (.node (some Tryz.f322) .nil .nil) .nil)) (.node (some Tryz.f98) (.node (some Tryz.f162) (.node (some Tryz.f290) .nil .nil) .nil) (.node (some Tryz.f226) (.node (some Tryz.f354) .nil .nil) .nil))) (.node (some Tryz.f50) (.node (some Tryz.f82) (.node (some Tryz.f146) (.node (some Tryz.f274) .nil .nil) .nil) (.node (some Tryz.f210) (.node (some Tryz.f338) .nil .nil) .nil)) (.node (some Tryz.f114) (.node (some Tryz.f178) (.node (some Tryz.f306) .nil .nil) .nil) (.node (some Tryz.f242) (.node (some Tryz.f370) .nil .nil) .nil)))) (.node (some Tryz.f26) (.node (some Tryz.f42) (.node (some Tryz.f74) (.node (some Tryz.f138) (.node (some Tryz.f266) .nil .nil) .nil) (.node (some Tryz.f202) (.node (some Tryz.f330) .nil .nil) .nil)) (.node (some Tryz.f106) (.node (some Tryz.f170) (.node (some Tryz.f298) .nil .nil) .nil) (.node (some Tryz.f234) (.node (some Tryz.f362) .nil .nil) .nil))) (.node (some Tryz.f58) (.node (some Tryz.f90) (.node (some Tryz.f154) (.node (some Tryz.f282) .nil .nil) .nil) (.node (some Tryz.f218) (.node (some Tryz.f346) .nil .nil) .nil)) (.node (some Tryz.f122) (.node (some Tryz.f186) (.node (some Tryz.f314) .nil .nil) .nil) (.node (some Tryz.f250) (.node (some Tryz.f378) .nil .nil) .nil))))) (.node (some Tryz.f14) (.node (some Tryz.f22) (.node (some Tryz.f38) (.node (some Tryz.f70) (.node (some Tryz.f134) (.node (some Tryz.f262) .nil .nil) .nil) (.node (some Tryz.f198) (.node (some Tryz.f326) .nil .nil) .nil)) (.node (some Tryz.f102) (.node (some Tryz.f166) (.node (some Tryz.f294) .nil .nil) .nil) (.node (some Tryz.f230) (.node (some Tryz.f358) .nil .nil) .nil))) (.node (some Tryz.f54) (.node (some Tryz.f86) (.node (some Tryz.f150) (.node (some Tryz.f278) .nil .nil) .nil) (.node (some Tryz.f214) (.node (some Tryz.f342) .nil .nil) .nil)) (.node (some Tryz.f118) (.node (some Tryz.f182) (.node (some Tryz.f310) .nil .nil) .nil) (.node (some Tryz.f246) (.node (some Tryz.f374) .nil .nil) .nil)))) (.node (some Tryz.f30) (.node (some Tryz.f46) (.node (some Tryz.f78) (.node (some Tryz.f142) (.node (some Tryz.f270) .nil .nil) .nil) (.node (some Tryz.f206) (.node (some Tryz.f334) .nil .nil) .nil)) (.node (some Tryz.f110) (.node (some Tryz.f174) (.node (some Tryz.f302) .nil .nil) .nil) (.node (some Tryz.f238) (.node (some Tryz.f366) .nil .nil) .nil))) (.node (some Tryz.f62) (.node (some Tryz.f94) (.node (some Tryz.f158) (.node (some Tryz.f286) .nil .nil) .nil) (.node (some Tryz.f222) (.node (some Tryz.f350) .nil .nil) .nil)) (.node (some Tryz.f126) (.node (some Tryz.f190) (.node (some Tryz.f318) .nil .nil) .nil) (.node (some Tryz.f254) (.node (some Tryz.f382) .nil .nil) .nil)))))))
def extN (i : Nat) : Nat := cond (Nat.beq i 315) 1 (cond (Nat.beq i 294) 3 (cond (Nat.beq i 273) 4 (cond (Nat.beq i 215) 5 (cond (Nat.beq i 274) 6 (cond (Nat.beq i 83) 7 (0))))))
def eqsN (i : Nat) : Bool := cond (Nat.beq i 256) true (cond (Nat.beq i 258) true (cond (Nat.beq i 47) true (cond (Nat.beq i 65) true (cond (Nat.beq i 174) true (false)))))
def extHN (x : Nat) (args : List Value) (H : AH) : Option (Value × AH) :=
  match x with
  | 6 => extKeys true 2 149 44 (isFn 85) args H
  | _ => none
noncomputable def tab : Tab := ⟨infoT.get, funcT.get, extN, fun _ => false, eqsN, extHN⟩
end Go.Am
namespace Go.Vw
open Go.RowKit Go.Am Go.Proofs
attribute [local irreducible] VOps VRun VNext VD VDn VDq Ret

def intV (i : Int) : List V := [.int .i64 i]
def idxI {α : Type} (p : α → Bool) (xs : List α) : Int := match xs.findIdx? p with | some i => i | none => -1
theorem idxI_ge {α : Type} (p : α → Bool) (xs : List α) : decide (0 ≤ idxI p xs) = xs.any p := by
  unfold idxI
  cases h : xs.findIdx? p with
  | none =>
    have h1 := List.findIdx?_eq_none_iff.1 h
    have : xs.any p = false := by rw [List.any_eq_false]; intro x hx; simpa using h1 x hx
    rw [this]; rfl
  | some i =>
    have : xs.any p = true := by
      cases hh : xs.any p
      · have h1 := List.any_eq_false.1 hh
        have : xs.findIdx? p = none := List.findIdx?_eq_none_iff.2 fun x hx => by simpa using h1 x hx
        rw [this] at h; cases h
      · rfl
    rw [this]
    simp
theorem idxI_hit {α : Type} (p : α → Bool) (xs : List α) (i : Nat) (hi : i < xs.length) (hp : p xs[i] = true) (hb : ∀ j (h : j < i), p (xs[j]'(by omega)) = false) : idxI p xs = i := by
  unfold idxI
  have : xs.findIdx? p = some i := by
    rw [List.findIdx?_eq_some_iff_getElem]
    exact ⟨hi, hp, fun j hj => by simpa using hb j hj⟩
  rw [this]
theorem idxI_miss {α : Type} (p : α → Bool) (xs : List α) (hb : ∀ j (h : j < xs.length), p xs[j] = false) : idxI p xs = -1 := by
  unfold idxI
  have : xs.findIdx? p = none := List.findIdx?_eq_none_iff.2 fun x hx => by
    obtain ⟨j, hj, rfl⟩ := List.getElem_of_mem hx
    simpa using hb j hj
  rw [this]

section
variable [Drw] (hT : TabOk tab Tryz.prog)
include hT
end
end Go.Vw
namespace Go.Vw
open Go.RowKit Go.Am Go.Proofs
attribute [local irreducible] VOps VRun VNext VD VDn VDq Ret
section
variable [Drw] (hT : TabOk tab Tryz.prog)
include hT
end
end Go.Vw
namespace Go.Vw
open Go.RowKit Go.Am Go.Proofs
attribute [local irreducible] VOps VRun VNext VD VDn VDq Ret
section
variable [Drw] (hT : TabOk tab Tryz.prog)
include hT
end
end Go.Vw
namespace Go.Vw
open Go.RowKit Go.Am Go.Proofs
attribute [local irreducible] VOps VRun VNext VD VDn VDq Ret
section
variable [Drw] (hT : TabOk tab Tryz.prog)
include hT
end
end Go.Vw
namespace Go.Vw
open Go.RowKit Go.Am Go.Proofs
attribute [local irreducible] VOps VRun VNext VD VDn VDq Ret
section
variable {S : Hp} {o : Oper} {ρ : Operand → Option V}
end
section
variable [Drw] (hT : TabOk tab Tryz.prog)
include hT
end
end Go.Vw
namespace Go.Vw
open Go.RowKit Go.Am Go.Proofs
attribute [local irreducible] VOps VRun VNext VD VDn VDq Ret
section
variable [Drw] (hT : TabOk tab Tryz.prog)
include hT
end
end Go.Vw
namespace Go.Vw
open Go.RowKit Go.Am Go.Proofs
attribute [local irreducible] VOps VRun VNext VD VDn VDq Ret
section
variable [Drw] (hT : TabOk tab Tryz.prog)
include hT
end
end Go.Vw
namespace Go.Vw
open Go.RowKit Go.Am Go.Proofs
attribute [local irreducible] VOps VRun VNext VD VDn VDq Ret
section
variable [Drw] (hT : TabOk tab Tryz.prog)
include hT
end
end Go.Vw
namespace Go.Vw
open Go.RowKit Go.Am Go.Proofs
attribute [local irreducible] VOps VRun VNext VD VDn VDq Ret
section
variable [Drw] (hT : TabOk tab Tryz.prog)
include hT
end
end Go.Vw
namespace Go.Vw
open Go.RowKit Go.Am Go.Proofs
attribute [local irreducible] VOps VRun VNext VD VDn VDq Ret
/-- A call that answers something of a kind, and looks at nothing that is told. -/
def PureR [Drw] (P : Program) (f : FuncId) (args : List V) (R : V → Prop) : Prop := VC P f args [] fun v _ => R v
theorem PureR.call [Drw] {P : Program} {f : FuncId} {args : List V} {R : V → Prop} {S : Hp} {Q : V → Hp → Prop} (h : PureR P f args R) (k : ∀ v, R v → Q v S) : VC P f args S Q := fun F w us s a => by
  refine ((VC.frame h S) F w us s a).mono ?_
  rintro e w' ⟨v', u, F', S', e1, e2, e3, e4, S1, rfl, hv⟩
  exact ⟨v', u, F', S, e1, e2, e3.sub (List.sublist_append_right _ _), e4.sub (List.sublist_append_right _ _), k v' hv⟩
theorem s_pureR [Drw] {P : Program} {S : Hp} {tb : Tab} {o : Oper} {ρ : Operand → Option V} {k : V → Hp → Prop} (hT : TabOk tb P) {c : Call} {x : Operand} {f : FuncId} {first cap args : List V} {fn : Func} {body : Code} {R : V → Prop} (ho : o.op = .call c) (hc : c.callee = .value x) (hx : ρ x = some (.func f first cap)) (ha : valsV ρ c.args.toList = some args) (hf : tb.func f = some fn) (hb : fn.body = some body)
    (h : PureR P f (first ++ args ++ cap) R) (hk : ∀ v, R v → k v S) : OpS P o ρ S k := s_call hT ho hc hx ha hf hb (h.call hk)
section
variable [Drw] (hT : TabOk tab Tryz.prog)
include hT
end
end Go.Vw
namespace Go.Vw
open Go.RowKit Go.Am Go.Proofs
attribute [local irreducible] VOps VRun VNext VD VDn VDq Ret
section
variable [Drw] (hT : TabOk tab Tryz.prog)
include hT
end
end Go.Vw
namespace Go.Vw
open Go.RowKit Go.Am Go.Proofs
attribute [local irreducible] VOps VRun VNext VD VDn VDq Ret
section
variable [Drw] (hT : TabOk tab Tryz.prog)
include hT
end
end Go.Vw
namespace Go.Vw
open Go.RowKit Go.Am Go.Proofs
attribute [local irreducible] VOps VRun VNext VD VDn VDq Ret
section
variable [Drw] (hT : TabOk tab Tryz.prog)
include hT
end
end Go.Vw
namespace Go.Vw
open Go.RowKit Go.Am Go.Proofs
attribute [local irreducible] VOps VRun VNext VD VDn VDq Ret
def andI (x y : Int) : Int := IntKind.i64.wrap (BitVec.ofInt IntKind.i64.bits x &&& BitVec.ofInt IntKind.i64.bits y).toNat
def orI (x y : Int) : Int := IntKind.i64.wrap (BitVec.ofInt IntKind.i64.bits x ||| BitVec.ofInt IntKind.i64.bits y).toNat
section
variable [Drw] (hT : TabOk tab Tryz.prog)
include hT
end
end Go.Vw
namespace Go.Vw
open Go.RowKit Go.Am Go.Proofs
attribute [local irreducible] VOps VRun VNext VD VDn VDq Ret
section
variable [Drw] (hT : TabOk tab Tryz.prog)
include hT
end
end Go.Vw
namespace Go.Vw
open Go.RowKit Go.Am Go.Proofs
attribute [local irreducible] VOps VRun VNext VD VDn VDq Ret
end Go.Vw
namespace Go.Vw
open Go.RowKit Go.Am Go.Proofs
attribute [local irreducible] VOps VRun VNext VD VDn VDq Ret
section
variable [Drw] (hT : TabOk tab Tryz.prog)
include hT
end
end Go.Vw
namespace Go.Vw
open Go.RowKit Go.Am Go.Proofs
attribute [local irreducible] VOps VRun VNext VD VDn VDq Ret
def bitI (a : Int) : Int := IntKind.i64.wrap (1 * 2 ^ (min (IntKind.u64.wrap a).toNat IntKind.i64.bits))
section
variable {P : Program} {S : Hp} {o : Oper} {ρ : Operand → Option V}
theorem g_shl1 {t z : TypeId} {x y : Operand} {a : Int} (ho : o.op = .binOp .shl t x y z) (hx : ρ x = some (.int .i64 1)) (hy : ρ y = some (.int .u64 (IntKind.u64.wrap a))) : QG P o ρ S (.int .i64 (bitI a)) :=
  g_int (u := .int .i64 (bitI a)) ho hx hy (by
    have : 0 ≤ IntKind.u64.wrap a := by simp [IntKind.wrap, IntKind.bits, IntKind.signed]; omega
    simp only [intOp, decide_eq_false (by omega : ¬ IntKind.u64.wrap a < 0), cond_false]
    rfl)
end
section
variable [Drw] (hT : TabOk tab Tryz.prog)
include hT
end
end Go.Vw
namespace Go.Vw
open Go.RowKit Go.Am Go.Proofs
attribute [local irreducible] VOps VRun VNext VD VDn VDq Ret
section
variable [Drw] (hT : TabOk tab Tryz.prog)
include hT
end
end Go.Vw
namespace Go.Vw
open Go.RowKit Go.Am Go.Proofs
/-! ### locks as bits -/
theorem bits_ofInt (u : Nat) : BitVec.ofInt IntKind.i64.bits (u : Int) = BitVec.ofNat 64 u := by
  apply BitVec.eq_of_toNat_eq
  simp [IntKind.bits, BitVec.toNat_ofInt]
theorem wrap_small {w : Nat} (h : w < 256) : IntKind.i64.wrap (w : Int) = w := by rw [IntKind.wrap_i64]; omega
theorem andI_nat {u v : Nat} (hu : u < 256) (hv : v < 256) : andI u v = ((u &&& v : Nat) : Int) := by
  have h1 : u &&& v < 256 := Nat.lt_of_le_of_lt Nat.and_le_left hu
  unfold andI
  rw [bits_ofInt, bits_ofInt]
  have : (BitVec.ofNat 64 u &&& BitVec.ofNat 64 v).toNat = u &&& v := by
    rw [BitVec.toNat_and, BitVec.toNat_ofNat, BitVec.toNat_ofNat, Nat.mod_eq_of_lt (by omega), Nat.mod_eq_of_lt (by omega)]
  show IntKind.i64.wrap ((BitVec.ofNat 64 u &&& BitVec.ofNat 64 v).toNat : Int) = _
  rw [this]; exact wrap_small h1
theorem orI_nat {u v : Nat} (hu : u < 256) (hv : v < 256) : orI u v = ((u ||| v : Nat) : Int) := by
  have h1 : u ||| v < 256 := Nat.or_lt_two_pow (n := 8) hu hv
  unfold orI
  rw [bits_ofInt, bits_ofInt]
  have : (BitVec.ofNat 64 u ||| BitVec.ofNat 64 v).toNat = u ||| v := by
    rw [BitVec.toNat_or, BitVec.toNat_ofNat, BitVec.toNat_ofNat, Nat.mod_eq_of_lt (by omega), Nat.mod_eq_of_lt (by omega)]
  show IntKind.i64.wrap ((BitVec.ofNat 64 u ||| BitVec.ofNat 64 v).toNat : Int) = _
  rw [this]; exact wrap_small h1
theorem bitI_nat {a : Int} (h : 0 ≤ a ∧ a < 8) : bitI a = ((2 ^ a.toNat : Nat) : Int) := by
  have : a = 0 ∨ a = 1 ∨ a = 2 ∨ a = 3 ∨ a = 4 ∨ a = 5 ∨ a = 6 ∨ a = 7 := by omega
  rcases this with rfl | rfl | rfl | rfl | rfl | rfl | rfl | rfl <;> rfl
end Go.Vw
namespace Go.Vw
open Go.RowKit Go.Am Go.Proofs
end Go.Vw
namespace Go.Vw
open Go.RowKit Go.Am Go.Proofs
theorem part_at {tb : Tab} {t : TypeId} {cs : List V} {off : Nat} {v : V} (ha : tb.isAgg t = some false) (h : cs[off]? = some v) : partV tb t cs off = some v := by
  unfold partV
  rw [ha]
  have h2 := cutV_get off cs 0
  rw [Nat.add_zero, h] at h2
  cases hc : cutV off cs with
  | nil => rw [hc] at h2; cases h2
  | cons x r => rw [hc] at h2; simp only [List.getElem?_cons_zero, Option.some.injEq] at h2; subst h2; cases tb.size t <;> rfl
theorem lay_at {v : V} : ∀ {off : Nat} {cs : List V}, off < cs.length → layV off [v] cs = some (cs.set off v)
  | _, [], h => by simp at h
  | 0, x :: cs, _ => by simp [layV]
  | n + 1, x :: cs, h => by
    have : n < cs.length := by simpa using h
    simp only [layV, lay_at this, List.set_cons_succ]
theorem store_at {tb : Tab} {t : TypeId} {v : V} {off : Nat} {cs : List V} (hs : tb.size t = some 1) (hv : v.cells = [v]) (hc : v.isCell = true) (h : off < cs.length) : storeV tb t v off cs = some (cs.set off v) := by
  unfold storeV
  rw [hs]
  simp only [hv, List.length_singleton, allCellV, hc, cond_true, Bool.and_self, Nat.beq_refl, Bool.true_and]
  exact lay_at h
end Go.Vw
namespace Go.Vw
open Go.RowKit Go.Am Go.Proofs
attribute [local irreducible] VOps VRun VNext VD VDn VDq Ret
section
variable {P : Program} {σ : Sg} {K : List Kt} {fr : Fr} {S : Hp} {Q : Exit → Fr → Hp → Prop} {ops : Array Oper} {l : List Oper}
theorem ops_perm [Drw] {S' : Hp} (x : List.Perm S S') (h : VT P σ (.ops ops l K fr) S' Q) : VOps P σ ops l K fr S Q := by
  unfold VOps
  intro i hi F w a s k
  have h : VOps P σ ops l K fr S' Q := h
  unfold VOps at h
  exact h i hi F w a ⟨s.sat.perm x, s.fr, s.size, s.defers⟩ (k.perm x)
end
section
variable {P : Program} {σ : Sg} {K : List Kt} {fr : Fr} {S : Hp} {Q : Exit → Fr → Hp → Prop}
end
section
variable [Drw] (hT : TabOk tab Tryz.prog)
include hT
end
end Go.Vw
namespace Go.Vw
open Go.RowKit Go.Am Go.Proofs
end Go.Vw
namespace Go.Vw
open Go.RowKit Go.Am Go.Proofs
/-- A call of which is known only that it leaves all that was as it was. -/
theorem vc_below [Drw] (hd : ¬ Drw.on) {P : Program} {f : FuncId} {S : Hp} {b : Bool} (h : ∀ F w, Sat F w S → Calls P f #[] w fun e w' => e = .returned (.bool b) ∧ Below w.heap.size w w') : VC P f [] S fun v S' => v = .ob b ∧ S' = S := fun F w us s a => by
  have hus : us = #[] := by
    have := a.length
    simp at this
    exact Array.eq_empty_of_size_eq_zero this.symm
  subst hus
  refine (h F w s).mono ?_
  rintro e w' ⟨rfl, hb⟩
  obtain ⟨b1, b2, b3, b4, b5⟩ := hb
  have g : Grow F w F w' := ⟨fun _ _ h => h, fun b k hk => by
    unfold World.cell?
    rw [b5 b (s.fz_lt hk)]⟩
  refine ⟨.ob b, .bool b, F, S, rfl, .ob b, ⟨fun c k hk => ?_, s.nodup, fun x hx => (s.ok x hx).mono g fun c hc => ⟨b5 c ((s.ok x hx).lt hc), fun _ h => h⟩⟩, ⟨g, b1, b2, b3, b4, fun c hc _ => ⟨b5 c hc, fun _ h => h⟩, fun _ h => .inl h, fun h => absurd h hd⟩, rfl, rfl⟩
  obtain ⟨v, e⟩ := s.fz c k hk
  exact ⟨v, (g.cell c k hk).trans e⟩
end Go.Vw
namespace Go.Vw
open Go.RowKit Go.Am Go.Proofs
end Go.Vw
namespace Go.Vw
open Go.RowKit Go.Am Go.Proofs
/-! ### the module that is handed over -/
theorem cells3 : Tryz.prog.cellsOf 3 = 1 := by kernel_rfl
section
variable {H : Type} {enc : TypeId × Value → H} {w : World} {K : DataW H → Nat} (hK : Bulk K) {B : Nat}
include hK
end
end Go.Vw
namespace Go.Vw
open Go.RowKit Go.Am Go.Proofs
attribute [local irreducible] VOps VRun VNext VD VDn VDq Ret
/-! ### the same numbers -/
theorem take_same {α : Type} {xs ys : List α} {i : Nat} (h1 : i < xs.length) (h2 : i < ys.length) (ht : xs.take i = ys.take i) (he : xs[i] = ys[i]) : xs.take (i + 1) = ys.take (i + 1) := by
  rw [List.take_succ_eq_append_getElem h1, List.take_succ_eq_append_getElem h2, ht, he]
theorem take_all {α : Type} {xs ys : List α} {i : Nat} (h1 : ¬ i < xs.length) (hl : xs.length = ys.length) (ht : xs.take i = ys.take i) : xs = ys := by
  rw [List.take_of_length_le (by omega), List.take_of_length_le (by omega)] at ht
  exact ht
section
variable [Drw] (hT : TabOk tab Tryz.prog)
include hT
theorem sameInts {t1 t2 : Tok} (xs ys : List Int) (hl : xs.length < 2000000) : Pure Tryz.prog 22 [.slice t1 (xs.map intV), .slice t2 (ys.map intV)] (.ob (decide (xs = ys))) := by
  refine VC.code hT 26 rfl rfl rfl rfl fun F W S0 => ?_
  repeat' (first
    | (refine go hT 10000 rfl ?_; conv => whnf)
    | refine ops_s rfl (s_boxF rfl rfl rfl ?_)
    | refine ops_s rfl (s_listF hT rfl rfl rfl rfl rfl rfl rfl rfl ?_)
    | refine ops_g rfl (g_len hT rfl rfl rfl rfl rfl rfl (List.length_map _)) ?_
    | refine op_guard rfl rfl rfl rfl (fun h => ?_) (fun h => ?_))
  refine run_split rfl (fun h => ?_) (fun h => ?_)
  · refine go hT 10000 rfl ?_
    conv => whnf
    refine ret_bool rfl rfl rfl ?_
    rw [decide_eq_false fun e => by subst e; simp at h]
  · simp only [Bool.not_eq_false', decide_eq_true_eq, Int.ofNat_inj] at h
    refine go hT 10000 rfl ?_
    conv => whnf
    refine run_lq (fun i : Nat => ([(0, .slice t1 (xs.map intV)), (1, .slice t2 (ys.map intV)), (5, .int .i64 i)], [])) (fun i => i ≤ xs.length ∧ xs.take i = ys.take i) (fun i => xs.length - i) 0 ⟨Nat.zero_le _, rfl⟩ ⟨⟨⟨_, rfl, .refl _⟩, ⟨_, rfl, .refl _⟩, ⟨_, rfl, .refl _⟩, trivial⟩, .nil⟩ ?_
    rintro i ⟨hi, ht⟩
    repeat' (first
      | (refine go hT 10000 rfl ?_; conv => whnf)
      | refine ops_s rfl (s_boxF rfl rfl rfl ?_)
      | refine ops_s rfl (s_listF hT rfl rfl rfl rfl rfl rfl rfl rfl ?_)
      | refine ops_g rfl (g_len hT rfl rfl rfl rfl rfl rfl (List.length_map _)) ?_
      | refine op_guard rfl rfl rfl rfl (fun h => ?_) (fun h => ?_))
    refine run_split rfl (fun hlt => ?_) (fun hlt => ?_)
    · simp only [decide_eq_true_eq, Int.ofNat_lt] at hlt
      have hlt2 : i < ys.length := by omega
      refine go hT 10000 rfl ?_
      conv => whnf
      intro id
      refine run_drw hT rfl rfl ?_ id
      repeat' (first
        | (refine god hT 2 rfl ?_; conv => whnf)
        | refine vd_fin rfl ?_
        | refine q_g rfl (fun S' => (g_len hT rfl rfl rfl rfl rfl rfl (List.length_map _)).qs) ?_
        | refine q_guard rfl rfl rfl rfl (fun h => ?_) (fun h => ?_)
        | refine q_g rfl (fun S' => (g_indexM (xs := xs) hT rfl rfl rfl rfl rfl hlt rfl).qs) ?_
        | refine q_g rfl (fun S' => (g_indexM (xs := ys) hT rfl rfl rfl rfl rfl hlt2 rfl).qs) ?_)
      refine go hT 10000 rfl ?_
      conv => whnf
      refine run_split rfl (fun hne => ?_) (fun hne => ?_)
      · refine go hT 10000 rfl ?_
        conv => whnf
        refine ret_bool rfl rfl rfl ?_
        rw [decide_eq_false fun e => by subst e; simp at hne]
      · simp only [Bool.not_eq_false', decide_eq_true_eq] at hne
        refine go hT 10000 rfl ?_
        conv => whnf
        refine ops_g rfl (g_add rfl rfl rfl (by omega)) ?_
        refine go hT 10000 rfl ?_
        conv => whnf
        exact ⟨i + 1, ⟨hlt, take_same hlt hlt2 ht hne⟩, by omega, ⟨⟨_, rfl, .refl _⟩, ⟨_, rfl, .refl _⟩, ⟨_, rfl, .refl _⟩, trivial⟩, .nil⟩
    · simp only [decide_eq_false_iff_not, Int.ofNat_lt] at hlt
      refine go hT 10000 rfl ?_
      conv => whnf
      refine ret_bool rfl rfl rfl ?_
      rw [decide_eq_true (take_all hlt h ht)]
end
end Go.Vw
namespace Go.Vw
open Go.RowKit Go.Am Go.Proofs
attribute [local irreducible] VOps VRun VNext VD VDn VDq Ret
section
variable [Drw] (hT : TabOk tab Tryz.prog)
include hT
end
end Go.Vw
